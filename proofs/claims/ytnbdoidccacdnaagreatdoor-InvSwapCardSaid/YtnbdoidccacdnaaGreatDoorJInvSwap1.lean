/-
  Joined, of what this claim leans on: GA, W0, W1, W2, Pg, Ph, Lv, La, Pm, Pn, Lc, Pf.
-/
import Ieee.Arith
import Derived.Laws.Externs
import Derived.Laws.FloatArith
import Derived.Laws.BitsAllLaws
import Derived.ChangeKeysEq
import Derived.Deep.Slices
import Derived.ChangeSame
import Derived.Test.YtnbdoidccacdnaaGreatDoorJInvGiven6
set_option linter.unusedVariables false
set_option linter.unusedSimpArgs false
namespace Go.Proofs.YtnbdoidccacdnaaGreatDoor.Gp
theorem rung_scale (X s a : Nat) : rung (X * 2 ^ a) (s + a) = rung X s := ((rnd_rung X s).scale a).rung
open Ieee
end Go.Proofs.YtnbdoidccacdnaaGreatDoor.Gp
namespace Go.Proofs.YtnbdoidccacdnaaGreatDoor.W0
open Ieee Go Go.RowKit Go.Proofs.YtnbdoidccacdnaaGreatDoor Ow Gp Gq Gr G1 G2 G3 G4 G9
def fdiv (x y : Nat) : Nat := told ((double.read x).quotient (double.fractionBits + 2) (double.read y))
end Go.Proofs.YtnbdoidccacdnaaGreatDoor.W0
namespace Go.Proofs.YtnbdoidccacdnaaGreatDoor.W1
open Ieee Go Gp Gq Gr W0
theorem told_num (s : Bool) {m : Nat} (h : m ≠ 0) (p : Int) : told (some (.number s m p)) = cn (double.word s (min (rung (toX m p) (toS p)) infR)) := by
  show cn (double.nearest s m p) = _
  rw [nearest_rung s m p h]
theorem told_num0 (s : Bool) (p : Int) : told (some (.number s 0 p)) = 0 := by
  show cn (double.nearest s 0 p) = _
  unfold Format.nearest
  rw [if_pos rfl, word_parts s (Nat.zero_le _), if_pos rfl]
end Go.Proofs.YtnbdoidccacdnaaGreatDoor.W1
namespace Go.Proofs.YtnbdoidccacdnaaGreatDoor.W2
open Ieee Go Gp Gq Gr W0 W1
theorem P2_facts {e : Nat} (h : 1 ≤ e) (h2 : e ≤ 2046) : Nm (P2 e) ∧ frung (P2 e) = P2 e := by
  have hb : P2 e < infR := by unfold P2 infR bn; omega
  have hl : P2 e < sgnW := Nat.lt_trans hb infR_lt
  have hf : frung (P2 e) = P2 e := Nat.mod_eq_of_lt hl
  refine ⟨⟨by omega, by rw [hf]; exact hb, ?_⟩, hf⟩
  unfold cn
  rw [hf, if_neg (by omega), if_neg (by unfold P2 bn; omega)]
theorem read_P2 {e : Nat} (h : 1 ≤ e) (h2 : e ≤ 2046) : double.read (P2 e) = .number false bn ((e : Int) - 1075) := by
  obtain ⟨hn, hf⟩ := P2_facts h h2
  rw [read_fin hn.lt hn.fin, hf]
  have h1 : fneg (P2 e) = false := by
    unfold fneg; apply decide_eq_false; have := hn.fin; rw [hf] at this; have := infR_lt; omega
  have h3 : sig (P2 e) = bn := by
    unfold sig P2
    rw [if_neg (by have := Nat.mul_le_mul_right bn h; omega), Nat.mul_mod_left, Nat.add_zero]
  have h4 : plc (P2 e) = e - 1 := by
    unfold plc P2; rw [Nat.mul_div_cancel _ (by decide)]
  rw [h1, h3, h4]
  congr 1; omega
theorem told_shift (s : Bool) (m k : Nat) (p : Int) : told (some (.number s (m * 2 ^ k) (p - k))) = told (some (.number s m p)) := by
  by_cases h0 : m = 0
  · subst h0; rw [Nat.zero_mul, told_num0, told_num0]
  · rw [told_num s h0, told_num s (Nat.mul_ne_zero h0 (Nat.ne_of_gt (Nat.two_pow_pos _)))]
    congr 3
    unfold toX toS
    by_cases h1 : 0 ≤ p - k + 1074
    · rw [show (-1074 - (p - (k : Int))).toNat = 0 from by omega, show (-1074 - p).toNat = 0 from by omega, Nat.mul_assoc, ← Nat.pow_add]
      congr 3; omega
    · rw [show (p - (k : Int) + 1074).toNat = 0 from by omega, Nat.pow_zero, Nat.mul_one]
      by_cases h2 : 0 ≤ p + 1074
      · rw [show (-1074 - p).toNat = 0 from by omega]
        have := rung_scale (m * 2 ^ (p + 1074).toNat) 0 (-1074 - (p - (k : Int))).toNat
        rw [← this, Nat.mul_assoc, ← Nat.pow_add]
        congr 3 <;> omega
      · rw [show (p + 1074).toNat = 0 from by omega, Nat.pow_zero, Nat.mul_one]
        have := rung_scale m (-1074 - p).toNat k
        rw [← this]
        congr 1; omega
theorem fdiv_P2 {x p : Nat} (h : x < 2 * sgnW) (hc : cn x = x) (hp : p ≤ 1022) : fdiv x (P2 (1023 + p)) = fmul x (P2 (1023 - p)) := by
  unfold fdiv fmul
  rw [read_P2 (by omega) (by omega), read_P2 (by omega) (by omega)]
  rcases cls h hc with hx | hx | rfl
  · rw [read_fin hx.lt hx.fin]
    simp only [Datum.quotient, Datum.product, Bool.xor_false, show bn ≠ 0 from by decide, if_false]
    have hs := (rung_split (frung x)).2.1
    generalize sig (frung x) = m at *
    have hfb : double.fractionBits = 52 := rfl
    have hlb : Nat.log2 bn = 52 := by decide
    rw [hfb, hlb]
    have hl : Nat.log2 m ≤ 52 := by
      by_cases h0 : m = 0
      · subst h0; decide
      · have : Nat.log2 m < 53 := (Nat.log2_lt h0).2 (by unfold bn at hs; omega)
        omega
    obtain ⟨e, he⟩ : ∃ e, 52 + 2 + 52 - Nat.log2 m = 52 + e := ⟨54 - Nat.log2 m, by omega⟩
    rw [he, Nat.shiftLeft_eq, Nat.pow_add, ← bn_eq, Nat.mul_comm bn, ← Nat.mul_assoc, Nat.mul_mod_left, Nat.mul_div_cancel _ (by decide)]
    simp only [bne_self_eq_false, Bool.toNat_false, Nat.add_zero]
    have a1 := told_shift (fneg x) m (e + 1) ((plc (frung x) : Int) - 1074 - p)
    have a2 := told_shift (fneg x) m 52 ((plc (frung x) : Int) - 1074 - p)
    rw [← bn_eq] at a2
    have e1 : (plc (frung x) : Int) - 1074 - (((1023 + p : Nat) : Int) - 1075) - ((52 + e : Nat) : Int) - 1 = (plc (frung x) : Int) - 1074 - p - ((e + 1 : Nat) : Int) := by omega
    have e2 : (plc (frung x) : Int) - 1074 + (((1023 - p : Nat) : Int) - 1075) = (plc (frung x) : Int) - 1074 - p - ((52 : Nat) : Int) := by omega
    rw [e1, e2, a2, ← a1, Nat.pow_succ]
    congr 3
    rw [Nat.mul_comm 2, Nat.mul_assoc]
  · rw [read_inf h hx]
    simp [Datum.quotient, Datum.product, show bn ≠ 0 from by decide]
  · rfl
theorem quo_dq {k : Nat} {x x' y y' : Datum} (h : dq x x') (g : dq y y') (h0 : ∀ s e, y ≠ .number s 0 e) : odq (x.quotient k y) (x'.quotient k y') := by
  cases x <;> cases x' <;> simp [dq] at h <;> cases y <;> cases y' <;> simp [dq] at g <;> try (simp [Datum.quotient, odq, dq]; done)
  · rename_i s m e t n f s2 m2 e2 t2 n2 f2
    obtain ⟨rfl, rfl, h⟩ := h
    obtain ⟨rfl, rfl, g⟩ := g
    have hn0 : m2 ≠ 0 := fun e => h0 _ _ (by rw [e])
    rcases g with g | rfl
    · exact (hn0 g).elim
    simp only [Datum.quotient, if_neg hn0, odq, dq]
    refine ⟨⟨trivial, trivial, ?_⟩, by simp⟩
    rcases h with rfl | rfl
    · left; simp
    · right; rfl
  · rename_i s t s2 m e t2 n f
    subst h
    obtain ⟨rfl, rfl, g⟩ := g
    have hn0 : m ≠ 0 := fun e => h0 _ _ (by rw [e])
    rcases g with g | rfl
    · exact (hn0 g).elim
    simp [Datum.quotient, odq, dq]
theorem fdiv_cn {a e : Nat} (ha : a < 2 * sgnW) (h : 1 ≤ e) (h2 : e ≤ 2046) : fdiv (cn a) (P2 e) = fdiv a (P2 e) := by
  unfold fdiv
  rw [read_P2 h h2]
  refine (told_odq (quo_dq (read_cn ha) (dq_refl _) ?_)).symm
  rintro s e' h
  have := congrArg (fun d => match d with | Datum.number _ m _ => m | _ => 1) h
  simp at this
  exact absurd this (by decide)
end Go.Proofs.YtnbdoidccacdnaaGreatDoor.W2
namespace Go.Proofs.YtnbdoidccacdnaaGreatDoor.Pg
open Ieee Go Go.RowKit Go.Proofs Go.Proofs.YtnbdoidccacdnaaGreatDoor Ow Dt Gp I0 U0 W0 S4 S6 P0 M0 M1 M2 M3 P4 P5 P6 P8 Pa Pb W4 W5 W1 W2 Pc Pe
attribute [local go_sem ↓] Go.wp_at_zero Go.wp_at_succ
def fftR (X Y : List Nat) : List Nat × List Nat := if okP X.length Y.length then intoN (Nat.log2 X.length) (X, Y) else (X, Y)
theorem fftR_len (X Y : List Nat) : (fftR X Y).1.length = X.length ∧ (fftR X Y).2.length = Y.length := by
  unfold fftR
  split
  · rename_i h
    obtain ⟨h1, h2, _⟩ := okP_pow h
    have := intoN_len (p := Nat.log2 X.length) (st := (X, Y)) h1 (by rw [h2]; exact h1)
    rw [← h1] at this; rw [h2]; exact this
  · exact ⟨rfl, rfl⟩
theorem coreInto : IntoSaid 55 fftR := by
  intro w B c c' A A' X Y T tw hX hY hB
  by_cases h : okP X.length Y.length = true
  · obtain ⟨h1, h2, h3⟩ := okP_pow h
    have hpos : 0 < X.length := by rw [h1]; exact Nat.two_pow_pos _
    obtain ⟨b, c1, e1, l1, C1, f1, B1⟩ := tw.one.at_ hpos
    obtain ⟨b', c2, e2, l2, C2, f2, B2⟩ := tw.two.at_ (by omega)
    have ne := tw.ne b b' 0 0 _ _ _ _ e1 e2 hpos (by omega)
    cases e1; cases e2
    have hc := dInto (p := Nat.log2 X.length) (N := X.length) (c := c) (c' := c') w T f1 f2 ne h1 rfl h2 (log_le h1 hX) l1 (by omega) C1 C2
    rw [h2]
    refine hc.mono ?_
    rintro e w' ⟨rfl, g1, g2, G⟩
    have hl := intoN_len (p := Nat.log2 X.length) (st := (X, Y)) h1 (by rw [h2]; exact h1)
    have hR : fftR X Y = intoN (Nat.log2 X.length) (X, Y) := by unfold fftR; rw [if_pos h]
    refine ⟨by unfold errR; rw [if_pos h], ?_, frm_gr2 G hpos (by omega)⟩
    rw [hR]
    exact gr2_two G B1 B2 ne g1 g2 (by rw [hl.1, ← h1]) (by rw [hl.2, ← h1]) l1 (by omega) C1 C2
  · have hbad : Bad X.length Y.length := fun q => h (decide_eq_true q)
    have hR : fftR X Y = (X, Y) := by unfold fftR; rw [if_neg h]
    have hE : errR X Y = 2 := by unfold errR; rw [if_neg h]
    rw [hR, hE]
    refine (dIntoBad (n := X.length) (m := Y.length) (A := A) (B := A') (c := c) (c' := c') w T (by omega) (by omega) hbad).mono ?_
    rintro e w' ⟨rfl, g⟩
    exact ⟨rfl, tw.bel g, frm_bel g _ _ _ _⟩
end Go.Proofs.YtnbdoidccacdnaaGreatDoor.Pg
namespace Go.Proofs.YtnbdoidccacdnaaGreatDoor.Ph
open Ieee Go Go.RowKit Go.Proofs Go.Proofs.YtnbdoidccacdnaaGreatDoor Ow Dt Gp I0 U0 W0 S4 S6 P0 M0 M1 M2 M3 P4 P5 P6 P8 Pa Pb W4 W5 W1 W2 Pc Pe Pg
attribute [local go_sem ↓] Go.wp_at_zero Go.wp_at_succ
def ffR (X Y : List Nat) : List Nat × List Nat := if okP X.length Y.length then fftR X Y else ([], [])
theorem ifR_len {X Y : List Nat} (h : okP X.length Y.length = true) : (ifR X Y).1.length = X.length ∧ (ifR X Y).2.length = Y.length := by unfold ifR; rw [if_pos h]; exact invR_len X Y
theorem ffR_len {X Y : List Nat} (h : okP X.length Y.length = true) : (ffR X Y).1.length = X.length ∧ (ffR X Y).2.length = Y.length := by unfold ffR; rw [if_pos h]; exact fftR_len X Y
set_option maxRecDepth 100000 in
set_option maxHeartbeats 16000000 in
theorem dFft {A B : Option Addr} {c c' : Nat} {X Y : List Nat} (w : World) (T : Tab w) (hx : In w (.slice A X.length c) X) (hy : In w (.slice B Y.length c') Y) (hl : X.length ≤ 128) (hl' : Y.length ≤ 128) :
    Calls Tryz.prog 49 #[.agg #[.slice A X.length c, .slice B Y.length c']] w (MakesVE w (ffR X Y).1 (ffR X Y).2 (errR X Y)) := by
  have KV := Ho.mk ((Blk.new w [.slice A X.length c, .slice B Y.length c'] 24).old (.cells #[.slice none 0 0, .slice none 0 0] 24))
  have KR := Ho.mk (Blk.new (w.alloc (.cells #[.slice A X.length c, .slice B Y.length c'] 24)) [.slice none 0 0, .slice none 0 0] 24)
  have g0 := Ho.mk (((Bel.refl w).alloc (.cells #[.slice A X.length c, .slice B Y.length c'] 24)).alloc (.cells #[.slice none 0 0, .slice none 0 0] 24))
  have TT := Ho.mk T
  rw [World.size_alloc] at KR
  clear T
  go_enter Tryz.func49, Tryz.ntmps49
  go_upto_region 1 with fail
  have hs : w.heap.size + 1 < ((w.alloc (.cells #[.slice A X.length c, .slice B Y.length c'] 24)).alloc (.cells #[.slice none 0 0, .slice none 0 0] 24)).heap.size := by simp only [World.size_alloc]; omega
  generalize (w.alloc (.cells #[.slice A X.length c, .slice B Y.length c'] 24)).alloc (.cells #[.slice none 0 0, .slice none 0 0] 24) = W at *
  obtain ⟨bR, hbR⟩ : ∃ bR, bR = w.heap.size + 1 := ⟨_, rfl⟩
  have le_bR : w.heap.size ≤ bR := by omega
  have lt_V : w.heap.size < bR := by omega
  rw [← hbR] at KR hs ⊢
  clear hbR
  have C0 := Ho.mk (fun w' (g : Bel w w') => dCloneI w' (hx.bel g) (by omega))
  have C1 := Ho.mk (fun w' (g : Bel w w') => dCloneI w' (hy.bel g) (by omega))
  obtain ⟨bV, hbV⟩ : ∃ bV, bV = w.heap.size := ⟨_, rfl⟩
  have ne_V : bV ≠ bR := by omega
  have lt_VR : bV < bR := by omega
  rw [← hbV] at KV ⊢
  have lt_bR := hs
  clear hbV hx hy hs
  go_cut [4] from 6 to 12 (fun s4 wy => ∃ (bF : Nat) (A1 : Option Addr) (c1 : Nat) (B1 : Option Addr) (d1 : Nat), s4 = .pointer (some ⟨bF, 0, none⟩) ∧ Ho (Blk wy bF 24 [.slice A1 X.length c1, .slice B1 Y.length d1]) ∧ Ho (Two wy (bR + 1) (.slice A1 X.length c1) (.slice B1 Y.length d1) X Y) ∧ Ho (Blk wy bR 24 [.slice none 0 0, .slice none 0 0]) ∧ Ho (Bel w wy) ∧ Ho (bR + 1 ≤ wy.heap.size))
  case first =>
    refine wp_region_held_drew (S := fun w' => Bel w w' ∧ Blk w' bV 24 [.slice A X.length c, .slice B Y.length c']) (by kernel_rfl) ⟨g0.out.drew, KV.out.bel (Bel.refl _).drew⟩ (fun hHeld => ?_)
    (try dsimp only at hHeld)
    have KR := Ho.mk (KR.out.bel (Bel.refl W).drew)
    have lt_bR : bR < W.drew.heap.size := lt_bR
    generalize W.drew = wd at *
    refine rt (i := 0) hHeld ?_
    refine rl (i := 1) (v := ?_) hHeld (fun w hSw => ?_) ?_
    rotate_left
    · (have z0 := hSw.2.cell (i := 0) rfl; have z1 := hSw.2.cell (i := 1) rfl; go_simp; try (with_reducible rfl))
    refine rt (i := 3) hHeld ?_
    refine rl (i := 4) (v := ?_) hHeld (fun w hSw => ?_) ?_
    rotate_left
    · (have z0 := hSw.2.cell (i := 0) rfl; have z1 := hSw.2.cell (i := 1) rfl; go_simp; try (with_reducible rfl))
    try simp only [Act.put, List.setIfInBounds_toArray, List.set_cons_zero, List.set_cons_succ]
    refine I6.rc2 (i := 2) (j := 7) (fun K hK => ?_) (fun K hK => ?_)
    · go_simp
      go_at_call 96
      (with_reducible refine (C0.out _ hHeld.1).mono ?_); rintro e v1 ⟨_, rfl, r0, bv1⟩
      obtain ⟨A0, c0, rfl, _⟩ := r0.out
      have R0 := Ho.mk (RowF.mono (B' := bR + 1) r0 lt_bR)
      clear r0
      try go_wp2_with fail
      refine hK.out _ _ ⟨Bel.trans hHeld.1 bv1, hHeld.2.bel bv1⟩ (fun hHeld => ?_)
      clear hK K
      have KR := Ho.mk (KR.out.bel bv1)
      have lt_bR := Nat.lt_of_lt_of_le lt_bR bv1.size
      clear bv1
      try simp only [Act.put, List.setIfInBounds_toArray, List.set_cons_zero, List.set_cons_succ]
      refine I6.rc2 (i := 5) (j := 7) (fun K hK => ?_) (fun K hK => ?_)
      · go_simp
        have Q0 := R0
        go_at_call 96
        (with_reducible refine (C1.out _ hHeld.1).mono ?_); rintro e v2 ⟨_, rfl, r1, bv2⟩
        obtain ⟨A1, c1, rfl, _⟩ := r1.out
        have NE := Ho.mk (two_of Q0.out (Nat.le_refl _) (Q0.out.bel bv2) r1 lt_bR).ne
        have R1 := Ho.mk (RowF.mono (B' := bR + 1) r1 lt_bR)
        clear r1
        try go_wp2_with fail
        refine hK.out _ _ ⟨Bel.trans hHeld.1 bv2, hHeld.2.bel bv2⟩ (fun hHeld => ?_)
        clear hK K
        have KR := Ho.mk (KR.out.bel bv2)
        have R0 := Ho.mk (R0.out.bel bv2)
        have lt_bR := Nat.lt_of_lt_of_le lt_bR bv2.size
        clear bv2
        refine rt (i := 6) hHeld ?_
        try simp only [Act.put, List.setIfInBounds_toArray, List.set_cons_zero, List.set_cons_succ]
        refine rc (i := 7) (fun K hK => ?_)
        go_simp
        have le_bF := hHeld.1.size
        refine hK.out _ _ ⟨Bel.alloc hHeld.1 _, hHeld.2.bel ((Bel.refl _).alloc _)⟩ (fun hHeld => ?_)
        clear hK K
        have KF := Ho.mk (Blk.new v2 [.slice none 0 0, .slice none 0 0] 24)
        have KR := Ho.mk (KR.out.bel ((Bel.refl v2).alloc (.cells #[.slice none 0 0, .slice none 0 0] 24)))
        have R0 := Ho.mk (R0.out.bel ((Bel.refl v2).alloc (.cells #[.slice none 0 0, .slice none 0 0] 24)))
        have R1 := Ho.mk (R1.out.bel ((Bel.refl v2).alloc (.cells #[.slice none 0 0, .slice none 0 0] 24)))
        have lt_bR := Nat.lt_of_lt_of_le lt_bR ((Bel.refl v2).alloc (.cells #[.slice none 0 0, .slice none 0 0] 24)).size
        have lt_bF : v2.heap.size < (World.alloc v2 (.cells #[.slice none 0 0, .slice none 0 0] 24)).heap.size := by rw [World.size_alloc]; exact Nat.lt_succ_self _
        obtain ⟨bF, hp_bF⟩ : ∃ p, p = v2.heap.size := ⟨_, rfl⟩
        rw [← hp_bF] at KF le_bF lt_bF
        rw [← hp_bF]
        have gt_bR_bF : bR < bF := by omega
        have ne_bR_bF : bR ≠ bF := by omega
        have en_bR_bF : bF ≠ bR := by omega
        clear hp_bF
        generalize World.alloc v2 (.cells #[.slice none 0 0, .slice none 0 0] 24) = v3 at *
        try simp only [Act.put, List.setIfInBounds_toArray, List.set_cons_zero, List.set_cons_succ]
        have y0 := KF.out.cell (i := 0) rfl
        have y1 := KF.out.cell (i := 1) rfl
        have x0 := KF.out.free 0
        have x1 := KF.out.free 1
        refine rc (i := 8) (fun K hK => ?_)
        go_simp
        have KR := Ho.mk ((KR.out.far (p := ⟨bF, 0, none⟩) (by dsimp only; omega) (.slice A0 X.length c0)).far (p := ⟨bF, 1, none⟩) (by dsimp only; omega) (.slice A1 Y.length c1))
        have R0 := Ho.mk (RowF.set2V R0.out KF.out (.slice A0 X.length c0) (.slice A1 Y.length c1))
        have R1 := Ho.mk (RowF.set2V R1.out KF.out (.slice A0 X.length c0) (.slice A1 Y.length c1))
        have KF := Ho.mk ((KF.out.set 0 (.slice A0 X.length c0)).set 1 (.slice A1 Y.length c1))
        simp only [List.set_cons_zero, List.set_cons_succ] at KF
        refine hK.out _ _ ⟨⟨((hHeld.1.out.setCell (p := ⟨bF, 0, none⟩) (by dsimp only; omega) (.slice A0 X.length c0)).setCell (p := ⟨bF, 1, none⟩) (by dsimp only; omega) (.slice A1 Y.length c1))⟩, ((hHeld.2.far (p := ⟨bF, 0, none⟩) (by dsimp only; omega) (.slice A0 X.length c0)).far (p := ⟨bF, 1, none⟩) (by dsimp only; omega) (.slice A1 Y.length c1))⟩ (fun hHeld => ?_)
        clear hK K y0 x0 y1 x1
        have lt_bR : bR < (World.setCell (World.setCell v3 ⟨bF, 0, none⟩ (.slice A0 X.length c0)) ⟨bF, 1, none⟩ (.slice A1 Y.length c1)).heap.size := by simpa [World.setCell] using lt_bR
        have lt_bF : bF < (World.setCell (World.setCell v3 ⟨bF, 0, none⟩ (.slice A0 X.length c0)) ⟨bF, 1, none⟩ (.slice A1 Y.length c1)).heap.size := by simpa [World.setCell] using lt_bF
        generalize World.setCell (World.setCell v3 ⟨bF, 0, none⟩ (.slice A0 X.length c0)) ⟨bF, 1, none⟩ (.slice A1 Y.length c1) = v4 at *
        try simp only [Act.put, List.setIfInBounds_toArray, List.set_cons_zero, List.set_cons_succ]
        refine wpAnyH_done (by kernel_rfl) ?_ _
        go_wp2_with fail
        go_meet
        exact ⟨bF, A0, c0, A1, c1, rfl, KF, ⟨⟨R0.out, R1.out, NE.out⟩⟩, KR, ⟨hHeld.1⟩, ⟨by omega⟩⟩
      · go_simp
        have le_bF := hHeld.1.size
        refine hK.out _ _ ⟨Bel.alloc hHeld.1 _, hHeld.2.bel ((Bel.refl _).alloc _)⟩ (fun hHeld => ?_)
        clear hK K
        have KF := Ho.mk (Blk.new v1 [.slice none 0 0, .slice none 0 0] 24)
        have KR := Ho.mk (KR.out.bel ((Bel.refl v1).alloc (.cells #[.slice none 0 0, .slice none 0 0] 24)))
        have R0 := Ho.mk (R0.out.bel ((Bel.refl v1).alloc (.cells #[.slice none 0 0, .slice none 0 0] 24)))
        have lt_bR := Nat.lt_of_lt_of_le lt_bR ((Bel.refl v1).alloc (.cells #[.slice none 0 0, .slice none 0 0] 24)).size
        have lt_bF : v1.heap.size < (World.alloc v1 (.cells #[.slice none 0 0, .slice none 0 0] 24)).heap.size := by rw [World.size_alloc]; exact Nat.lt_succ_self _
        obtain ⟨bF, hp_bF⟩ : ∃ p, p = v1.heap.size := ⟨_, rfl⟩
        rw [← hp_bF] at KF le_bF lt_bF
        rw [← hp_bF]
        have gt_bR_bF : bR < bF := by omega
        have ne_bR_bF : bR ≠ bF := by omega
        have en_bR_bF : bF ≠ bR := by omega
        clear hp_bF
        generalize World.alloc v1 (.cells #[.slice none 0 0, .slice none 0 0] 24) = v5 at *
        try simp only [Act.put, List.setIfInBounds_toArray, List.set_cons_zero, List.set_cons_succ]
        refine rc (i := 5) (fun K hK => ?_)
        go_simp
        have Q0 := R0
        go_at_call 96
        (with_reducible refine (C1.out _ hHeld.1).mono ?_); rintro e v6 ⟨_, rfl, r1, bv6⟩
        obtain ⟨A1, c1, rfl, _⟩ := r1.out
        have NE := Ho.mk (two_of Q0.out (Nat.le_refl _) (Q0.out.bel bv6) r1 lt_bR).ne
        have R1 := Ho.mk (RowF.mono (B' := bR + 1) r1 lt_bR)
        clear r1
        try go_wp2_with fail
        refine hK.out _ _ ⟨Bel.trans hHeld.1 bv6, hHeld.2.bel bv6⟩ (fun hHeld => ?_)
        clear hK K
        have KR := Ho.mk (KR.out.bel bv6)
        have R0 := Ho.mk (R0.out.bel bv6)
        have KF := Ho.mk (KF.out.bel bv6)
        have lt_bR := Nat.lt_of_lt_of_le lt_bR bv6.size
        have lt_bF := Nat.lt_of_lt_of_le lt_bF bv6.size
        clear bv6
        refine rt (i := 6) hHeld ?_
        try simp only [Act.put, List.setIfInBounds_toArray, List.set_cons_zero, List.set_cons_succ]
        have y0 := KF.out.cell (i := 0) rfl
        have y1 := KF.out.cell (i := 1) rfl
        have x0 := KF.out.free 0
        have x1 := KF.out.free 1
        refine rc (i := 8) (fun K hK => ?_)
        go_simp
        have KR := Ho.mk ((KR.out.far (p := ⟨bF, 0, none⟩) (by dsimp only; omega) (.slice A0 X.length c0)).far (p := ⟨bF, 1, none⟩) (by dsimp only; omega) (.slice A1 Y.length c1))
        have R0 := Ho.mk (RowF.set2V R0.out KF.out (.slice A0 X.length c0) (.slice A1 Y.length c1))
        have R1 := Ho.mk (RowF.set2V R1.out KF.out (.slice A0 X.length c0) (.slice A1 Y.length c1))
        have KF := Ho.mk ((KF.out.set 0 (.slice A0 X.length c0)).set 1 (.slice A1 Y.length c1))
        simp only [List.set_cons_zero, List.set_cons_succ] at KF
        refine hK.out _ _ ⟨⟨((hHeld.1.out.setCell (p := ⟨bF, 0, none⟩) (by dsimp only; omega) (.slice A0 X.length c0)).setCell (p := ⟨bF, 1, none⟩) (by dsimp only; omega) (.slice A1 Y.length c1))⟩, ((hHeld.2.far (p := ⟨bF, 0, none⟩) (by dsimp only; omega) (.slice A0 X.length c0)).far (p := ⟨bF, 1, none⟩) (by dsimp only; omega) (.slice A1 Y.length c1))⟩ (fun hHeld => ?_)
        clear hK K y0 x0 y1 x1
        have lt_bR : bR < (World.setCell (World.setCell v6 ⟨bF, 0, none⟩ (.slice A0 X.length c0)) ⟨bF, 1, none⟩ (.slice A1 Y.length c1)).heap.size := by simpa [World.setCell] using lt_bR
        have lt_bF : bF < (World.setCell (World.setCell v6 ⟨bF, 0, none⟩ (.slice A0 X.length c0)) ⟨bF, 1, none⟩ (.slice A1 Y.length c1)).heap.size := by simpa [World.setCell] using lt_bF
        generalize World.setCell (World.setCell v6 ⟨bF, 0, none⟩ (.slice A0 X.length c0)) ⟨bF, 1, none⟩ (.slice A1 Y.length c1) = v7 at *
        try simp only [Act.put, List.setIfInBounds_toArray, List.set_cons_zero, List.set_cons_succ]
        refine wpAnyH_done (by kernel_rfl) ?_ _
        go_wp2_with fail
        go_meet
        exact ⟨bF, A0, c0, A1, c1, rfl, KF, ⟨⟨R0.out, R1.out, NE.out⟩⟩, KR, ⟨hHeld.1⟩, ⟨by omega⟩⟩
    · go_simp
      have le_bF := hHeld.1.size
      refine hK.out _ _ ⟨Bel.alloc hHeld.1 _, hHeld.2.bel ((Bel.refl _).alloc _)⟩ (fun hHeld => ?_)
      clear hK K
      have KF := Ho.mk (Blk.new wd [.slice none 0 0, .slice none 0 0] 24)
      have KR := Ho.mk (KR.out.bel ((Bel.refl wd).alloc (.cells #[.slice none 0 0, .slice none 0 0] 24)))
      have lt_bR := Nat.lt_of_lt_of_le lt_bR ((Bel.refl wd).alloc (.cells #[.slice none 0 0, .slice none 0 0] 24)).size
      have lt_bF : wd.heap.size < (World.alloc wd (.cells #[.slice none 0 0, .slice none 0 0] 24)).heap.size := by rw [World.size_alloc]; exact Nat.lt_succ_self _
      obtain ⟨bF, hp_bF⟩ : ∃ p, p = wd.heap.size := ⟨_, rfl⟩
      rw [← hp_bF] at KF le_bF lt_bF
      rw [← hp_bF]
      have gt_bR_bF : bR < bF := by omega
      have ne_bR_bF : bR ≠ bF := by omega
      have en_bR_bF : bF ≠ bR := by omega
      clear hp_bF
      generalize World.alloc wd (.cells #[.slice none 0 0, .slice none 0 0] 24) = v8 at *
      try simp only [Act.put, List.setIfInBounds_toArray, List.set_cons_zero, List.set_cons_succ]
      refine rc (i := 2) (fun K hK => ?_)
      go_simp
      go_at_call 96
      (with_reducible refine (C0.out _ hHeld.1).mono ?_); rintro e v9 ⟨_, rfl, r0, bv9⟩
      obtain ⟨A0, c0, rfl, _⟩ := r0.out
      have R0 := Ho.mk (RowF.mono (B' := bR + 1) r0 lt_bR)
      clear r0
      try go_wp2_with fail
      refine hK.out _ _ ⟨Bel.trans hHeld.1 bv9, hHeld.2.bel bv9⟩ (fun hHeld => ?_)
      clear hK K
      have KR := Ho.mk (KR.out.bel bv9)
      have KF := Ho.mk (KF.out.bel bv9)
      have lt_bR := Nat.lt_of_lt_of_le lt_bR bv9.size
      have lt_bF := Nat.lt_of_lt_of_le lt_bF bv9.size
      clear bv9
      try simp only [Act.put, List.setIfInBounds_toArray, List.set_cons_zero, List.set_cons_succ]
      refine rc (i := 5) (fun K hK => ?_)
      go_simp
      have Q0 := R0
      go_at_call 96
      (with_reducible refine (C1.out _ hHeld.1).mono ?_); rintro e v10 ⟨_, rfl, r1, bv10⟩
      obtain ⟨A1, c1, rfl, _⟩ := r1.out
      have NE := Ho.mk (two_of Q0.out (Nat.le_refl _) (Q0.out.bel bv10) r1 lt_bR).ne
      have R1 := Ho.mk (RowF.mono (B' := bR + 1) r1 lt_bR)
      clear r1
      try go_wp2_with fail
      refine hK.out _ _ ⟨Bel.trans hHeld.1 bv10, hHeld.2.bel bv10⟩ (fun hHeld => ?_)
      clear hK K
      have KR := Ho.mk (KR.out.bel bv10)
      have KF := Ho.mk (KF.out.bel bv10)
      have R0 := Ho.mk (R0.out.bel bv10)
      have lt_bR := Nat.lt_of_lt_of_le lt_bR bv10.size
      have lt_bF := Nat.lt_of_lt_of_le lt_bF bv10.size
      clear bv10
      refine rt (i := 6) hHeld ?_
      try simp only [Act.put, List.setIfInBounds_toArray, List.set_cons_zero, List.set_cons_succ]
      have y0 := KF.out.cell (i := 0) rfl
      have y1 := KF.out.cell (i := 1) rfl
      have x0 := KF.out.free 0
      have x1 := KF.out.free 1
      refine rc (i := 8) (fun K hK => ?_)
      go_simp
      have KR := Ho.mk ((KR.out.far (p := ⟨bF, 0, none⟩) (by dsimp only; omega) (.slice A0 X.length c0)).far (p := ⟨bF, 1, none⟩) (by dsimp only; omega) (.slice A1 Y.length c1))
      have R0 := Ho.mk (RowF.set2V R0.out KF.out (.slice A0 X.length c0) (.slice A1 Y.length c1))
      have R1 := Ho.mk (RowF.set2V R1.out KF.out (.slice A0 X.length c0) (.slice A1 Y.length c1))
      have KF := Ho.mk ((KF.out.set 0 (.slice A0 X.length c0)).set 1 (.slice A1 Y.length c1))
      simp only [List.set_cons_zero, List.set_cons_succ] at KF
      refine hK.out _ _ ⟨⟨((hHeld.1.out.setCell (p := ⟨bF, 0, none⟩) (by dsimp only; omega) (.slice A0 X.length c0)).setCell (p := ⟨bF, 1, none⟩) (by dsimp only; omega) (.slice A1 Y.length c1))⟩, ((hHeld.2.far (p := ⟨bF, 0, none⟩) (by dsimp only; omega) (.slice A0 X.length c0)).far (p := ⟨bF, 1, none⟩) (by dsimp only; omega) (.slice A1 Y.length c1))⟩ (fun hHeld => ?_)
      clear hK K y0 x0 y1 x1
      have lt_bR : bR < (World.setCell (World.setCell v10 ⟨bF, 0, none⟩ (.slice A0 X.length c0)) ⟨bF, 1, none⟩ (.slice A1 Y.length c1)).heap.size := by simpa [World.setCell] using lt_bR
      have lt_bF : bF < (World.setCell (World.setCell v10 ⟨bF, 0, none⟩ (.slice A0 X.length c0)) ⟨bF, 1, none⟩ (.slice A1 Y.length c1)).heap.size := by simpa [World.setCell] using lt_bF
      generalize World.setCell (World.setCell v10 ⟨bF, 0, none⟩ (.slice A0 X.length c0)) ⟨bF, 1, none⟩ (.slice A1 Y.length c1) = v11 at *
      try simp only [Act.put, List.setIfInBounds_toArray, List.set_cons_zero, List.set_cons_succ]
      refine wpAnyH_done (by kernel_rfl) ?_ _
      go_wp2_with fail
      go_meet
      exact ⟨bF, A0, c0, A1, c1, rfl, KF, ⟨⟨R0.out, R1.out, NE.out⟩⟩, KR, ⟨hHeld.1⟩, ⟨by omega⟩⟩
  case rest =>
  obtain ⟨bF, A1, c1, B1, d1, rfl, K4, TW, KR, GB, SZW⟩ := hcut
  have y0 := K4.out.cell (i := 0) rfl
  have y1 := K4.out.cell (i := 1) rfl
  have sz2 := GB.out.size
  have IN := Ho.mk (coreInto wc (bR + 1) c1 d1 A1 B1 X Y (TT.out.bel GB.out) TW.out hl hl' SZW.out)
  go_wp2_with fail
  (with_reducible refine IN.out.mono ?_); rintro e w3 ⟨rfl, t3, F3⟩
  clear IN y0 y1
  have KR := Ho.mk (F3.blk TW.out KR.out (fun b _ hf => by rcases hf with hf | hf <;> exact vec_ne KR.out hf))
  have K4 := Ho.mk (F3.blk TW.out K4.out (fun b _ hf => by rcases hf with hf | hf <;> exact vec_ne K4.out hf))
  have BB := Ho.mk (F3.bel TW.out GB.out (by omega))
  have T3 := Ho.mk t3
  have HF := Ho.mk F3
  clear t3 F3
  by_cases hok : okP X.length Y.length = true
  · have he : errR X Y = 0 := by unfold errR; rw [if_pos hok]
    have HL := Ho.mk (fftR_len X Y)
    have h4 := K4.out.cell (i := 0) rfl
    have h5 := K4.out.cell (i := 1) rfl
    have x0 := KR.out.cell (i := 0) rfl
    have x1 := KR.out.cell (i := 1) rfl
    have z0 := KR.out.free 0
    have z1 := KR.out.free 1
    rw [he]
    go_wp2
    refine bodyPost_ret (resVE (fn := Tryz.f49) rfl rfl rfl ((KR.out.set 0 _).set 1 _)) rfl ?_
    have e : ffR X Y = fftR X Y := by unfold ffR; rw [if_pos hok]
    unfold MakesVE
    rw [e, he, HL.out.1, HL.out.2]
    exact ⟨_, _, _, _, rfl, (((T3.out.mono (B' := bR + 1) (by omega)).far (p := ⟨bR, 0, none⟩) (by dsimp only; omega) _).far (p := ⟨bR, 1, none⟩) (by dsimp only; omega) _).mono (by omega), ⟨(BB.out.out.setCell (p := ⟨bR, 0, none⟩) (by dsimp only; omega) _).setCell (p := ⟨bR, 1, none⟩) (by dsimp only; omega) _⟩⟩
  · have he : errR X Y = 2 := by unfold errR; rw [if_neg hok]
    have x0 := KR.out.cell (i := 0) rfl
    have x1 := KR.out.cell (i := 1) rfl
    have z0 := KR.out.free 0
    have z1 := KR.out.free 1
    rw [he]
    go_wp2
    refine bodyPost_ret (resVE (fn := Tryz.f49) rfl rfl rfl ((KR.out.set 0 _).set 1 _)) rfl ?_
    have e : ffR X Y = ([], []) := by unfold ffR; rw [if_neg hok]
    unfold MakesVE
    rw [e, he]
    exact ⟨none, 0, none, 0, rfl, two_nil _ _, ⟨(BB.out.out.setCell (p := ⟨bR, 0, none⟩) (by dsimp only; omega) _).setCell (p := ⟨bR, 1, none⟩) (by dsimp only; omega) _⟩⟩
end Go.Proofs.YtnbdoidccacdnaaGreatDoor.Ph
namespace Go.Proofs.YtnbdoidccacdnaaGreatDoor.Lv
open Ieee Go Go.RowKit Go.Proofs Go.Proofs.YtnbdoidccacdnaaGreatDoor Ow Dt Gp I0 U0 W0 S4 S6 P0 M0 M1 M2 M3 P4 P5 P6 P8 Pa Pb W4 W5 W1 W2 Pc Pe Pg Ph Go.Proofs.YtnbdoidccacdnaaGreatDoor.Pi Pj Pk
section
variable {A B : Option Addr} {n m c c' : Nat} {X Y : List Nat} {w : World}
theorem pFft (T : Tab w) (hx : In w (.slice A n c) X) (hy : In w (.slice B m c') Y) (hl : X.length ≤ 128) (hl' : Y.length ≤ 128) {X' Y' : List Nat} {z : Int} (h1 : (X', Y') = ffR X Y) (h2 : z = errR X Y) :
    Calls Tryz.prog 49 #[.agg #[.slice A n c, .slice B m c']] w (MakesVE w X' Y' z) := by
  obtain rfl := In.len hx; obtain rfl := In.len hy
  have h := dFft w T hx hy hl hl'
  rw [← h1, ← h2] at h; exact h
end
end Go.Proofs.YtnbdoidccacdnaaGreatDoor.Lv
namespace Go.Proofs.YtnbdoidccacdnaaGreatDoor.La
open Ieee Go Go.RowKit Go.Proofs Go.Proofs.YtnbdoidccacdnaaGreatDoor Ow Dt Gp I0 U0 W0 S4 S6 P0 M0 M1 M2 M3 P4 P5 P6 P8 Pa Pb W4 W5 W1 W2 Pc Pe Pg Ph Go.Proofs.YtnbdoidccacdnaaGreatDoor.Pi Pj Pk Lv
attribute [local go_sem ↓] Go.wp_at_zero Go.wp_at_succ
theorem h1 : ifR [4621819117588971520, 13837309855095848960, 13835058055282163712, 13830554455654793216] [4607182418800017408, 4611686018427387904, 13830554455654793216, 13835058055282163712] = ([4607182418800017408, 4611686018427387904, 4613937818241073152, 4616189618054758400], [0, 0, 0, 4607182418800017408]) ∧ errR [4621819117588971520, 13837309855095848960, 13835058055282163712, 13830554455654793216] [4607182418800017408, 4611686018427387904, 13830554455654793216, 13835058055282163712] = 0 := by decide +kernel
theorem h2 : ifR [] [] = ([], []) ∧ errR [] [] = 2 := by decide +kernel
theorem h3 : invR [4619567317775286272, 4613937818241073152] [4611686018427387904, 0] = ([4617315517961601024, 4611686018427387904], [4607182418800017408, 4607182418800017408]) ∧ errR [4619567317775286272, 4613937818241073152] [4611686018427387904, 0] = 0 := by decide +kernel
theorem h4 : [4613937818241073152].map fng = [13837309855095848960] := by decide +kernel
set_option maxRecDepth 100000 in
set_option maxHeartbeats 16000000 in
theorem head13 (w : World) (T : Tab w) : Calls Tryz.prog 15 #[] w (fun e w' => e = .returned (.bool true) ∧ Bel w w') := by
  have TT := Ho.mk T
  clear T
  go_enter Tryz.func15, Tryz.ntmps15
  go_wp2_with fail
  have K1 := Ho.mk ((Blk.new w [.float .f64 4621819117588971520, .float .f64 13837309855095848960, .float .f64 13835058055282163712, .float .f64 13830554455654793216] 50).old (.cells #[.float .f64 4607182418800017408, .float .f64 4611686018427387904, .float .f64 13830554455654793216, .float .f64 13835058055282163712] 50))
  have K2 := Ho.mk (Blk.new (w.alloc (.cells #[.float .f64 4621819117588971520, .float .f64 13837309855095848960, .float .f64 13835058055282163712, .float .f64 13830554455654793216] 50)) [.float .f64 4607182418800017408, .float .f64 4611686018427387904, .float .f64 13830554455654793216, .float .f64 13835058055282163712] 50)
  simp only [World.size_alloc] at K2
  have g1 := Ho.mk (((Bel.refl w).alloc (.cells #[.float .f64 4621819117588971520, .float .f64 13837309855095848960, .float .f64 13835058055282163712, .float .f64 13830554455654793216] 50)).alloc (.cells #[.float .f64 4607182418800017408, .float .f64 4611686018427387904, .float .f64 13830554455654793216, .float .f64 13835058055282163712] 50))
  generalize (w.alloc (.cells #[.float .f64 4621819117588971520, .float .f64 13837309855095848960, .float .f64 13835058055282163712, .float .f64 13830554455654793216] 50)).alloc (.cells #[.float .f64 4607182418800017408, .float .f64 4611686018427387904, .float .f64 13830554455654793216, .float .f64 13835058055282163712] 50) = v2 at *
  have R3 := Ho.mk (litRow (X := [4621819117588971520, 13837309855095848960, 13835058055282163712, 13830554455654793216]) K1.out rfl (by decide) (n := 4) rfl (by decide))
  have R4 := Ho.mk (litRow (X := [4607182418800017408, 4611686018427387904, 13830554455654793216, 13835058055282163712]) K2.out rfl (by decide) (n := 4) rfl (by decide))
  obtain ⟨X1, Y1, hXY1⟩ : ∃ X Y, (X, Y) = ifR [4621819117588971520, 13837309855095848960, 13835058055282163712, 13830554455654793216] [4607182418800017408, 4611686018427387904, 13830554455654793216, 13835058055282163712] := ⟨_, _, rfl⟩
  have C5 := Ho.mk (pIfft (TT.out.bel g1.out) (inn R3.out (by decide)) (inn R4.out (by decide)) (by decide) (by decide) hXY1 (z := 0) h1.2.symm)
  (with_reducible refine C5.out.mono ?_); rintro e v6 ⟨P1, c1, Q1, d1, rfl, t1, b7⟩
  have b7H := Ho.mk b7
  have T1 := Ho.mk t1
  clear C5 b7 t1
  have HXY1 := Ho.mk (hXY1.trans h1.1)
  clear hXY1
  go_wp2_with fail
  have BX1 := Ho.mk (Blk.new v6 [.slice P1 X1.length c1, .slice Q1 Y1.length d1] 24)
  have g8 := Ho.mk ((Bel.refl v6).alloc (.cells #[.slice P1 X1.length c1, .slice Q1 Y1.length d1] 24))
  generalize v6.alloc (.cells #[.slice P1 X1.length c1, .slice Q1 Y1.length d1] 24) = v9 at *
  obtain ⟨X2, Y2, hXY2⟩ : ∃ X Y, (X, Y) = ifR [] [] := ⟨_, _, rfl⟩
  have C10 := Ho.mk (pIfft (TT.out.bel ((g1.out.trans b7H.out).trans g8.out)) (in_nil _ none) (in_nil _ none) (by decide) (by decide) hXY2 (z := 2) h2.2.symm)
  (with_reducible refine C10.out.mono ?_); rintro e v11 ⟨P2, c2, Q2, d2, rfl, t2, b12⟩
  have b12H := Ho.mk b12
  have T2 := Ho.mk t2
  clear C10 b12 t2
  clear hXY2
  go_wp2_with fail
  have BX2 := Ho.mk ((((Blk.new v11 [.slice P2 X2.length c2, .slice Q2 Y2.length d2] 24).old (.cells #[.float .f64 4619567317775286272, .float .f64 4613937818241073152] 50)).old (.cells #[.float .f64 4611686018427387904, .float .f64 0] 50)).old (.cells #[.slice (some ⟨v11.heap.size + 1, 0, none⟩) 2 2, .slice (some ⟨v11.heap.size + 1 + 1, 0, none⟩) 2 2] 24))
  have K3 := Ho.mk (((Blk.new (v11.alloc (.cells #[.slice P2 X2.length c2, .slice Q2 Y2.length d2] 24)) [.float .f64 4619567317775286272, .float .f64 4613937818241073152] 50).old (.cells #[.float .f64 4611686018427387904, .float .f64 0] 50)).old (.cells #[.slice (some ⟨v11.heap.size + 1, 0, none⟩) 2 2, .slice (some ⟨v11.heap.size + 1 + 1, 0, none⟩) 2 2] 24))
  simp only [World.size_alloc] at K3
  have K4 := Ho.mk ((Blk.new ((v11.alloc (.cells #[.slice P2 X2.length c2, .slice Q2 Y2.length d2] 24)).alloc (.cells #[.float .f64 4619567317775286272, .float .f64 4613937818241073152] 50)) [.float .f64 4611686018427387904, .float .f64 0] 50).old (.cells #[.slice (some ⟨v11.heap.size + 1, 0, none⟩) 2 2, .slice (some ⟨v11.heap.size + 1 + 1, 0, none⟩) 2 2] 24))
  simp only [World.size_alloc] at K4
  have BX5 := Ho.mk (Blk.new (((v11.alloc (.cells #[.slice P2 X2.length c2, .slice Q2 Y2.length d2] 24)).alloc (.cells #[.float .f64 4619567317775286272, .float .f64 4613937818241073152] 50)).alloc (.cells #[.float .f64 4611686018427387904, .float .f64 0] 50)) [.slice (some ⟨v11.heap.size + 1, 0, none⟩) 2 2, .slice (some ⟨v11.heap.size + 1 + 1, 0, none⟩) 2 2] 24)
  simp only [World.size_alloc] at BX5
  have g13 := Ho.mk (((((Bel.refl v11).alloc (.cells #[.slice P2 X2.length c2, .slice Q2 Y2.length d2] 24)).alloc (.cells #[.float .f64 4619567317775286272, .float .f64 4613937818241073152] 50)).alloc (.cells #[.float .f64 4611686018427387904, .float .f64 0] 50)).alloc (.cells #[.slice (some ⟨v11.heap.size + 1, 0, none⟩) 2 2, .slice (some ⟨v11.heap.size + 1 + 1, 0, none⟩) 2 2] 24))
  generalize (((v11.alloc (.cells #[.slice P2 X2.length c2, .slice Q2 Y2.length d2] 24)).alloc (.cells #[.float .f64 4619567317775286272, .float .f64 4613937818241073152] 50)).alloc (.cells #[.float .f64 4611686018427387904, .float .f64 0] 50)).alloc (.cells #[.slice (some ⟨v11.heap.size + 1, 0, none⟩) 2 2, .slice (some ⟨v11.heap.size + 1 + 1, 0, none⟩) 2 2] 24) = v14 at *
  have R15 := Ho.mk (litRow (X := [4619567317775286272, 4613937818241073152]) K3.out rfl (by decide) (n := 2) rfl (by decide))
  have R16 := Ho.mk (litRow (X := [4611686018427387904, 0]) K4.out rfl (by decide) (n := 2) rfl (by decide))
  obtain ⟨X3, Y3, hXY3⟩ : ∃ X Y, (X, Y) = invR [4619567317775286272, 4613937818241073152] [4611686018427387904, 0] := ⟨_, _, rfl⟩
  have TW17 := Ho.mk (two_lits (D := v11.heap.size) R15.out R16.out (by omega) (by omega) (by omega))
  have y18 := (BX5.out).cell (i := 0) rfl
  have y19 := (BX5.out).cell (i := 1) rfl
  have sz20 := g13.out.size
  go_wp2_with fail
  have C21 := Ho.mk (pInto (D := v11.heap.size) invInto invR_len (TT.out.bel ((((g1.out.trans b7H.out).trans g8.out).trans b12H.out).trans g13.out)) TW17.out (by decide) (by decide) sz20 hXY3 (z := 0) h3.2.symm)
  (with_reducible refine C21.out.mono ?_); rintro e v22 ⟨rfl, t3, b23⟩
  have T3 := Ho.mk t3
  clear C21 t3
  have fz := Ho.mk (frmBel b23 TW17.out g13.out (Nat.le_refl _))
  have BX5 := Ho.mk (frmVec b23 TW17.out BX5.out)
  clear b23
  have HXY3 := Ho.mk (hXY3.trans h3.1)
  clear hXY3
  clear y18 y19
  go_upto_region 6 with fail
  have K5 := Ho.mk (((Blk.new v22 [.float .f64 4607182418800017408, .float .f64 4611686018427387904] 50).old (.cells #[.float .f64 4613937818241073152] 50)).old (.cells #[.slice (some ⟨v22.heap.size, 0, none⟩) 2 2, .slice (some ⟨v22.heap.size + 1, 0, none⟩) 1 1] 24))
  have K6 := Ho.mk ((Blk.new (v22.alloc (.cells #[.float .f64 4607182418800017408, .float .f64 4611686018427387904] 50)) [.float .f64 4613937818241073152] 50).old (.cells #[.slice (some ⟨v22.heap.size, 0, none⟩) 2 2, .slice (some ⟨v22.heap.size + 1, 0, none⟩) 1 1] 24))
  simp only [World.size_alloc] at K6
  have BX7 := Ho.mk (Blk.new ((v22.alloc (.cells #[.float .f64 4607182418800017408, .float .f64 4611686018427387904] 50)).alloc (.cells #[.float .f64 4613937818241073152] 50)) [.slice (some ⟨v22.heap.size, 0, none⟩) 2 2, .slice (some ⟨v22.heap.size + 1, 0, none⟩) 1 1] 24)
  simp only [World.size_alloc] at BX7
  have g24 := Ho.mk ((((Bel.refl v22).alloc (.cells #[.float .f64 4607182418800017408, .float .f64 4611686018427387904] 50)).alloc (.cells #[.float .f64 4613937818241073152] 50)).alloc (.cells #[.slice (some ⟨v22.heap.size, 0, none⟩) 2 2, .slice (some ⟨v22.heap.size + 1, 0, none⟩) 1 1] 24))
  generalize ((v22.alloc (.cells #[.float .f64 4607182418800017408, .float .f64 4611686018427387904] 50)).alloc (.cells #[.float .f64 4613937818241073152] 50)).alloc (.cells #[.slice (some ⟨v22.heap.size, 0, none⟩) 2 2, .slice (some ⟨v22.heap.size + 1, 0, none⟩) 1 1] 24) = v25 at *
  have R26 := Ho.mk (litRow (X := [4607182418800017408, 4611686018427387904]) K5.out rfl (by decide) (n := 2) rfl (by decide))
  have R27 := Ho.mk (litRow (X := [4613937818241073152]) K6.out rfl (by decide) (n := 1) rfl (by decide))
  obtain ⟨U5, hU5⟩ : ∃ L, L = [4607182418800017408, 4611686018427387904] := ⟨_, rfl⟩
  rw [← hU5] at R26
  have HU5 := Ho.mk hU5
  clear hU5
  obtain ⟨U6, hU6⟩ : ∃ L, L = [4613937818241073152] := ⟨_, rfl⟩
  rw [← hU6] at R27
  have HU6 := Ho.mk hU6
  clear hU6
  have e1 := congrArg Prod.fst HXY1.out
  have f1 := congrArg Prod.snd HXY1.out
  have e3 := congrArg Prod.fst HXY3.out
  have f3 := congrArg Prod.snd HXY3.out
  dsimp only at e1 f1 e3 f3
  have E := Ho.mk (And.intro (And.intro e1 f1) (And.intro e3 f3))
  clear e1 f1 e3 f3
  have y28 := ((BX1.out.bel ((b12H.out.trans fz.out).trans g24.out))).cell (i := 0) rfl
  have y29 := ((BX1.out.bel ((b12H.out.trans fz.out).trans g24.out))).cell (i := 1) rfl
  go_wp2_with fail
  have Kaa := Ho.mk ((Blk.new v25 [.float .f64 4607182418800017408, .float .f64 4611686018427387904, .float .f64 4613937818241073152, .float .f64 4616189618054758400] 50).old (.cells #[.float .f64 0, .float .f64 0, .float .f64 0, .float .f64 4607182418800017408] 50))
  have Kab := Ho.mk (Blk.new (v25.alloc (.cells #[.float .f64 4607182418800017408, .float .f64 4611686018427387904, .float .f64 4613937818241073152, .float .f64 4616189618054758400] 50)) [.float .f64 0, .float .f64 0, .float .f64 0, .float .f64 4607182418800017408] 50)
  simp only [World.size_alloc] at Kab
  have g30 := Ho.mk (((Bel.refl v25).alloc (.cells #[.float .f64 4607182418800017408, .float .f64 4611686018427387904, .float .f64 4613937818241073152, .float .f64 4616189618054758400] 50)).alloc (.cells #[.float .f64 0, .float .f64 0, .float .f64 0, .float .f64 4607182418800017408] 50))
  generalize (v25.alloc (.cells #[.float .f64 4607182418800017408, .float .f64 4611686018427387904, .float .f64 4613937818241073152, .float .f64 4616189618054758400] 50)).alloc (.cells #[.float .f64 0, .float .f64 0, .float .f64 0, .float .f64 4607182418800017408] 50) = v31 at *
  have R32 := Ho.mk (litRow (X := [4607182418800017408, 4611686018427387904, 4613937818241073152, 4616189618054758400]) Kaa.out rfl (by decide) (n := 4) rfl (by decide))
  have R33 := Ho.mk (litRow (X := [0, 0, 0, 4607182418800017408]) Kab.out rfl (by decide) (n := 4) rfl (by decide))
  have C34 := Ho.mk (pSame (z := true) (inn ((T1.out.bel ((((g8.out.trans b12H.out).trans fz.out).trans g24.out).trans g30.out))).one (by rw [E.out.1.1]; decide)) (inn ((T1.out.bel ((((g8.out.trans b12H.out).trans fz.out).trans g24.out).trans g30.out))).two (by rw [E.out.1.2]; decide)) (inn R32.out (by decide)) (inn R33.out (by decide)) (by rw [E.out.1.1]; decide) (by rw [E.out.1.2]; decide) (by decide) (by decide) (by rw [E.out.1.1, E.out.1.2]; decide))
  (with_reducible refine C34.out.mono ?_); rintro e v35 ⟨rfl, b36⟩
  have b36H := Ho.mk b36
  clear C34 b36
  clear y28 y29
  have y37 := ((BX5.out.bel ((g24.out.trans g30.out).trans b36H.out))).cell (i := 0) rfl
  have y38 := ((BX5.out.bel ((g24.out.trans g30.out).trans b36H.out))).cell (i := 1) rfl
  go_wp2_with fail
  have Kba := Ho.mk ((Blk.new v35 [.float .f64 4617315517961601024, .float .f64 4611686018427387904] 50).old (.cells #[.float .f64 4607182418800017408, .float .f64 4607182418800017408] 50))
  have Kbb := Ho.mk (Blk.new (v35.alloc (.cells #[.float .f64 4617315517961601024, .float .f64 4611686018427387904] 50)) [.float .f64 4607182418800017408, .float .f64 4607182418800017408] 50)
  simp only [World.size_alloc] at Kbb
  have g39 := Ho.mk (((Bel.refl v35).alloc (.cells #[.float .f64 4617315517961601024, .float .f64 4611686018427387904] 50)).alloc (.cells #[.float .f64 4607182418800017408, .float .f64 4607182418800017408] 50))
  generalize (v35.alloc (.cells #[.float .f64 4617315517961601024, .float .f64 4611686018427387904] 50)).alloc (.cells #[.float .f64 4607182418800017408, .float .f64 4607182418800017408] 50) = v40 at *
  have R41 := Ho.mk (litRow (X := [4617315517961601024, 4611686018427387904]) Kba.out rfl (by decide) (n := 2) rfl (by decide))
  have R42 := Ho.mk (litRow (X := [4607182418800017408, 4607182418800017408]) Kbb.out rfl (by decide) (n := 2) rfl (by decide))
  have C43 := Ho.mk (pSame (z := true) (inn ((T3.out.bel (((g24.out.trans g30.out).trans b36H.out).trans g39.out))).one (by rw [E.out.2.1]; decide)) (inn ((T3.out.bel (((g24.out.trans g30.out).trans b36H.out).trans g39.out))).two (by rw [E.out.2.2]; decide)) (inn R41.out (by decide)) (inn R42.out (by decide)) (by rw [E.out.2.1]; decide) (by rw [E.out.2.2]; decide) (by decide) (by decide) (by rw [E.out.2.1, E.out.2.2]; decide))
  (with_reducible refine C43.out.mono ?_); rintro e v44 ⟨rfl, b45⟩
  have b45H := Ho.mk b45
  clear C43 b45
  clear y37 y38
  have y46 := ((BX7.out.bel (((g30.out.trans b36H.out).trans g39.out).trans b45H.out))).cell (i := 0) rfl
  have y47 := ((BX7.out.bel (((g30.out.trans b36H.out).trans g39.out).trans b45H.out))).cell (i := 1) rfl
  go_wp2_with fail
  obtain ⟨Z4, hZ4⟩ : ∃ Z, Z = U6.map fng := ⟨_, rfl⟩
  have C48 := Ho.mk (pConj (TT.out.bel (((((((((g1.out.trans b7H.out).trans g8.out).trans b12H.out).trans fz.out).trans g24.out).trans g30.out).trans b36H.out).trans g39.out).trans b45H.out)) (inn (R26.out.bel (((g30.out.trans b36H.out).trans g39.out).trans b45H.out)) (by rw [HU5.out]; decide)) (inn (R27.out.bel (((g30.out.trans b36H.out).trans g39.out).trans b45H.out)) (by rw [HU6.out]; decide)) (by rw [HU5.out]; decide) (by rw [HU6.out]; decide) hZ4)
  (with_reducible refine C48.out.mono ?_); rintro e v49 ⟨P4, c4, Q4, d4, rfl, t4, b50⟩
  have b50H := Ho.mk b50
  have T4 := Ho.mk t4
  clear C48 b50 t4
  have E4 : Ho (Z4 = [13837309855095848960]) := ⟨hZ4.trans (by rw [HU6.out]; exact h4)⟩
  clear hZ4
  go_wp2_with fail
  have Kc := Ho.mk ((Blk.new v49 [.float .f64 4607182418800017408, .float .f64 4611686018427387904] 50).old (.cells #[.float .f64 13837309855095848960] 50))
  have Kd := Ho.mk (Blk.new (v49.alloc (.cells #[.float .f64 4607182418800017408, .float .f64 4611686018427387904] 50)) [.float .f64 13837309855095848960] 50)
  simp only [World.size_alloc] at Kd
  have g51 := Ho.mk (((Bel.refl v49).alloc (.cells #[.float .f64 4607182418800017408, .float .f64 4611686018427387904] 50)).alloc (.cells #[.float .f64 13837309855095848960] 50))
  generalize (v49.alloc (.cells #[.float .f64 4607182418800017408, .float .f64 4611686018427387904] 50)).alloc (.cells #[.float .f64 13837309855095848960] 50) = v52 at *
  have R53 := Ho.mk (litRow (X := [4607182418800017408, 4611686018427387904]) Kc.out rfl (by decide) (n := 2) rfl (by decide))
  have R54 := Ho.mk (litRow (X := [13837309855095848960]) Kd.out rfl (by decide) (n := 1) rfl (by decide))
  have C55 := Ho.mk (pSame (z := true) (inn ((T4.out.bel g51.out)).one (by rw [HU5.out]; decide)) (inn ((T4.out.bel g51.out)).two (by rw [E4.out]; decide)) (inn R53.out (by decide)) (inn R54.out (by decide)) (by rw [HU5.out]; decide) (by rw [E4.out]; decide) (by decide) (by decide) (by rw [E4.out, HU5.out]; decide))
  (with_reducible refine C55.out.mono ?_); rintro e v56 ⟨rfl, b57⟩
  have b57H := Ho.mk b57
  clear C55 b57
  clear y46 y47
  have y58 := ((BX7.out.bel ((((((g30.out.trans b36H.out).trans g39.out).trans b45H.out).trans b50H.out).trans g51.out).trans b57H.out))).cell (i := 0) rfl
  have y59 := ((BX7.out.bel ((((((g30.out.trans b36H.out).trans g39.out).trans b45H.out).trans b50H.out).trans g51.out).trans b57H.out))).cell (i := 1) rfl
  go_wp2_with fail
  have C60 := Ho.mk (pSwap (inn (R26.out.bel ((((((g30.out.trans b36H.out).trans g39.out).trans b45H.out).trans b50H.out).trans g51.out).trans b57H.out)) (by rw [HU5.out]; decide)) (inn (R27.out.bel ((((((g30.out.trans b36H.out).trans g39.out).trans b45H.out).trans b50H.out).trans g51.out).trans b57H.out)) (by rw [HU6.out]; decide)) (by rw [HU5.out]; decide) (by rw [HU6.out]; decide))
  (with_reducible refine C60.out.mono ?_); rintro e v61 ⟨P5, c5, Q5, d5, rfl, t5, b62⟩
  have b62H := Ho.mk b62
  have T5 := Ho.mk t5
  clear C60 b62 t5
  go_wp2_with fail
  have Ke := Ho.mk ((Blk.new v61 [.float .f64 4613937818241073152] 50).old (.cells #[.float .f64 4607182418800017408, .float .f64 4611686018427387904] 50))
  have Kf := Ho.mk (Blk.new (v61.alloc (.cells #[.float .f64 4613937818241073152] 50)) [.float .f64 4607182418800017408, .float .f64 4611686018427387904] 50)
  simp only [World.size_alloc] at Kf
  have g63 := Ho.mk (((Bel.refl v61).alloc (.cells #[.float .f64 4613937818241073152] 50)).alloc (.cells #[.float .f64 4607182418800017408, .float .f64 4611686018427387904] 50))
  generalize (v61.alloc (.cells #[.float .f64 4613937818241073152] 50)).alloc (.cells #[.float .f64 4607182418800017408, .float .f64 4611686018427387904] 50) = v64 at *
  have R65 := Ho.mk (litRow (X := [4613937818241073152]) Ke.out rfl (by decide) (n := 1) rfl (by decide))
  have R66 := Ho.mk (litRow (X := [4607182418800017408, 4611686018427387904]) Kf.out rfl (by decide) (n := 2) rfl (by decide))
  have C67 := Ho.mk (pSame (z := true) (inn ((T5.out.bel g63.out)).one (by rw [HU6.out]; decide)) (inn ((T5.out.bel g63.out)).two (by rw [HU5.out]; decide)) (inn R65.out (by decide)) (inn R66.out (by decide)) (by rw [HU6.out]; decide) (by rw [HU5.out]; decide) (by decide) (by decide) (by rw [HU5.out, HU6.out]; decide))
  (with_reducible refine C67.out.mono ?_); rintro e v68 ⟨rfl, b69⟩
  have b69H := Ho.mk b69
  clear C67 b69
  clear y58 y59
  go_wp2
  go_ret
  exact ⟨rfl, (((((((((((((((g1.out.trans b7H.out).trans g8.out).trans b12H.out).trans fz.out).trans g24.out).trans g30.out).trans b36H.out).trans g39.out).trans b45H.out).trans b50H.out).trans g51.out).trans b57H.out).trans b62H.out).trans g63.out).trans b69H.out)⟩
end Go.Proofs.YtnbdoidccacdnaaGreatDoor.La
namespace Go.Proofs.YtnbdoidccacdnaaGreatDoor.Pm
open Ieee Go Go.RowKit Go.Proofs Go.Proofs.YtnbdoidccacdnaaGreatDoor Ow I0 P0 P4 Pg
attribute [local go_sem ↓] Go.wp_at_zero Go.wp_at_succ
theorem logI_none {n : Nat} (h : ∀ q, q < 11 → n ≠ 2 ^ q) : logI n = -1 := by
  unfold logI
  refine if_neg fun q => ?_
  refine h (Nat.log2 n) ?_ q.2.1.symm
  apply Nat.lt_of_not_le; intro c
  have : 2 ^ 11 ≤ 2 ^ Nat.log2 n := Nat.pow_le_pow_right (by omega) c
  have := q.2.2
  have := q.2.1
  omega
set_option maxRecDepth 100000 in
set_option maxHeartbeats 4000000 in
theorem dPow {n : Nat} (w : World) (h : n ≤ 1024) : Calls Tryz.prog 29 #[.int .i64 (n : Int), .int .i64 10] w fun e w' => e = .returned (.int .i64 (logI n)) ∧ Bel w w' := by
  obtain ⟨k, hk⟩ : ∃ k : Int, k = (n : Int) := ⟨_, rfl⟩
  have HK := Ho.mk hk
  have HN := Ho.mk h
  rw [← hk]
  clear hk h
  go_enter Tryz.func29, Tryz.ntmps29
  go_wp2_with fail
  go_loopw [5] (fun v wr => ∃ (i : Nat), i ≤ 11 ∧ v = .int .i64 i ∧ Ho (∀ q, q < i → n ≠ 2 ^ q) ∧ Ho (Bel w wr)) (fun v _ => 11 - (intOf v).toNat)
  case atStart => exact ⟨0, Nat.zero_le _, rfl, ⟨fun q hq => absurd hq (Nat.not_lt_zero _)⟩, ⟨Bel.refl _⟩⟩
  case round =>
    obtain ⟨i, hi, rfl, HT, HW⟩ := hrel
    have hc : i = 0 ∨ i = 1 ∨ i = 2 ∨ i = 3 ∨ i = 4 ∨ i = 5 ∨ i = 6 ∨ i = 7 ∨ i = 8 ∨ i = 9 ∨ i = 10 ∨ i = 11 := by omega
    clear hi
    rcases hc with rfl | rfl | rfl | rfl | rfl | rfl | rfl | rfl | rfl | rfl | rfl | rfl
    · by_cases hc : k = 1
      · have LE := Ho.mk (show logI n = 0 by rw [(by have := HK.out; omega : n = 1)]; decide)
        go_wp2
        go_ret
        exact ⟨by rw [LE.out]; rfl, HW.out⟩
      · have HC := Ho.mk hc
        go_wp2
        go_roundw
        case rel => exact ⟨1, by omega, rfl, ⟨fun q hq => by have := HT.out q; have := HC.out; have := HK.out; rcases Nat.lt_or_ge q 0 with l | l; exact HT.out q l; rw [show q = 0 by omega]; omega⟩, HW⟩
        case measure => simp [intOf]
    · by_cases hc : k = 2
      · have LE := Ho.mk (show logI n = 1 by rw [(by have := HK.out; omega : n = 2)]; decide)
        go_wp2
        go_ret
        exact ⟨by rw [LE.out]; rfl, HW.out⟩
      · have HC := Ho.mk hc
        go_wp2
        go_roundw
        case rel => exact ⟨2, by omega, rfl, ⟨fun q hq => by have := HT.out q; have := HC.out; have := HK.out; rcases Nat.lt_or_ge q 1 with l | l; exact HT.out q l; rw [show q = 1 by omega]; omega⟩, HW⟩
        case measure => simp [intOf]
    · by_cases hc : k = 4
      · have LE := Ho.mk (show logI n = 2 by rw [(by have := HK.out; omega : n = 4)]; decide)
        go_wp2
        go_ret
        exact ⟨by rw [LE.out]; rfl, HW.out⟩
      · have HC := Ho.mk hc
        go_wp2
        go_roundw
        case rel => exact ⟨3, by omega, rfl, ⟨fun q hq => by have := HT.out q; have := HC.out; have := HK.out; rcases Nat.lt_or_ge q 2 with l | l; exact HT.out q l; rw [show q = 2 by omega]; omega⟩, HW⟩
        case measure => simp [intOf]
    · by_cases hc : k = 8
      · have LE := Ho.mk (show logI n = 3 by rw [(by have := HK.out; omega : n = 8)]; decide)
        go_wp2
        go_ret
        exact ⟨by rw [LE.out]; rfl, HW.out⟩
      · have HC := Ho.mk hc
        go_wp2
        go_roundw
        case rel => exact ⟨4, by omega, rfl, ⟨fun q hq => by have := HT.out q; have := HC.out; have := HK.out; rcases Nat.lt_or_ge q 3 with l | l; exact HT.out q l; rw [show q = 3 by omega]; omega⟩, HW⟩
        case measure => simp [intOf]
    · by_cases hc : k = 16
      · have LE := Ho.mk (show logI n = 4 by rw [(by have := HK.out; omega : n = 16)]; decide)
        go_wp2
        go_ret
        exact ⟨by rw [LE.out]; rfl, HW.out⟩
      · have HC := Ho.mk hc
        go_wp2
        go_roundw
        case rel => exact ⟨5, by omega, rfl, ⟨fun q hq => by have := HT.out q; have := HC.out; have := HK.out; rcases Nat.lt_or_ge q 4 with l | l; exact HT.out q l; rw [show q = 4 by omega]; omega⟩, HW⟩
        case measure => simp [intOf]
    · by_cases hc : k = 32
      · have LE := Ho.mk (show logI n = 5 by rw [(by have := HK.out; omega : n = 32)]; decide)
        go_wp2
        go_ret
        exact ⟨by rw [LE.out]; rfl, HW.out⟩
      · have HC := Ho.mk hc
        go_wp2
        go_roundw
        case rel => exact ⟨6, by omega, rfl, ⟨fun q hq => by have := HT.out q; have := HC.out; have := HK.out; rcases Nat.lt_or_ge q 5 with l | l; exact HT.out q l; rw [show q = 5 by omega]; omega⟩, HW⟩
        case measure => simp [intOf]
    · by_cases hc : k = 64
      · have LE := Ho.mk (show logI n = 6 by rw [(by have := HK.out; omega : n = 64)]; decide)
        go_wp2
        go_ret
        exact ⟨by rw [LE.out]; rfl, HW.out⟩
      · have HC := Ho.mk hc
        go_wp2
        go_roundw
        case rel => exact ⟨7, by omega, rfl, ⟨fun q hq => by have := HT.out q; have := HC.out; have := HK.out; rcases Nat.lt_or_ge q 6 with l | l; exact HT.out q l; rw [show q = 6 by omega]; omega⟩, HW⟩
        case measure => simp [intOf]
    · by_cases hc : k = 128
      · have LE := Ho.mk (show logI n = 7 by rw [(by have := HK.out; omega : n = 128)]; decide)
        go_wp2
        go_ret
        exact ⟨by rw [LE.out]; rfl, HW.out⟩
      · have HC := Ho.mk hc
        go_wp2
        go_roundw
        case rel => exact ⟨8, by omega, rfl, ⟨fun q hq => by have := HT.out q; have := HC.out; have := HK.out; rcases Nat.lt_or_ge q 7 with l | l; exact HT.out q l; rw [show q = 7 by omega]; omega⟩, HW⟩
        case measure => simp [intOf]
    · by_cases hc : k = 256
      · have LE := Ho.mk (show logI n = 8 by rw [(by have := HK.out; omega : n = 256)]; decide)
        go_wp2
        go_ret
        exact ⟨by rw [LE.out]; rfl, HW.out⟩
      · have HC := Ho.mk hc
        go_wp2
        go_roundw
        case rel => exact ⟨9, by omega, rfl, ⟨fun q hq => by have := HT.out q; have := HC.out; have := HK.out; rcases Nat.lt_or_ge q 8 with l | l; exact HT.out q l; rw [show q = 8 by omega]; omega⟩, HW⟩
        case measure => simp [intOf]
    · by_cases hc : k = 512
      · have LE := Ho.mk (show logI n = 9 by rw [(by have := HK.out; omega : n = 512)]; decide)
        go_wp2
        go_ret
        exact ⟨by rw [LE.out]; rfl, HW.out⟩
      · have HC := Ho.mk hc
        go_wp2
        go_roundw
        case rel => exact ⟨10, by omega, rfl, ⟨fun q hq => by have := HT.out q; have := HC.out; have := HK.out; rcases Nat.lt_or_ge q 9 with l | l; exact HT.out q l; rw [show q = 9 by omega]; omega⟩, HW⟩
        case measure => simp [intOf]
    · by_cases hc : k = 1024
      · have LE := Ho.mk (show logI n = 10 by rw [(by have := HK.out; omega : n = 1024)]; decide)
        go_wp2
        go_ret
        exact ⟨by rw [LE.out]; rfl, HW.out⟩
      · have HC := Ho.mk hc
        go_wp2
        go_roundw
        case rel => exact ⟨11, by omega, rfl, ⟨fun q hq => by have := HT.out q; have := HC.out; have := HK.out; rcases Nat.lt_or_ge q 10 with l | l; exact HT.out q l; rw [show q = 10 by omega]; omega⟩, HW⟩
        case measure => simp [intOf]
    · go_wp2
      go_ret
      exact ⟨by rw [logI_none HT.out]; rfl, HW.out⟩
set_option maxRecDepth 100000 in
set_option maxHeartbeats 16000000 in
theorem dRight {A B : Option Addr} {n m c c' : Nat} (w : World) (h : n ≤ 1024) (h' : m ≤ 100000) :
    Calls Tryz.prog 26 #[.agg #[.slice A n c, .slice B m c']] w fun e w' => e = .returned (.bool (okP n m)) ∧ Bel w w' := by
  have S1 := Ho.mk (fun w' => dPow (n := n) w' h)
  have KV := Ho.mk (Blk.new w [.slice A n c, .slice B m c'] 24)
  have g0 := Ho.mk ((Bel.refl w).alloc (.cells #[.slice A n c, .slice B m c'] 24))
  go_enter Tryz.func26, Tryz.ntmps26
  go_upto_region 1 with fail
  generalize w.alloc (.cells #[.slice A n c, .slice B m c'] 24) = W at *
  have y0 := KV.out.cell (i := 0) rfl
  have y1 := KV.out.cell (i := 1) rfl
  obtain ⟨z, hz⟩ : ∃ z, z = logI n := ⟨_, rfl⟩
  have HZ := Ho.mk hz
  by_cases e1 : n = m
  · subst e1
    have D1 := Ho.mk (show okP n n = decide (0 ≤ z) by unfold okP; rw [hz]; simp)
    rw [← hz] at S1
    clear hz
    go_wp2_with (go_at_call 29; (with_reducible refine (S1.out _).mono ?_); rintro e w1 ⟨rfl, b1⟩)
    go_ret
    exact ⟨by rw [D1.out]; rfl, g0.out.trans b1⟩
  · have D1 := Ho.mk (show okP n m = false by unfold okP; simp [e1])
    have e2 : ¬ (n : Int) = (m : Int) := by omega
    clear hz e1
    go_wp2_with fail
    go_ret
    exact ⟨by rw [D1.out]; rfl, g0.out⟩
end Go.Proofs.YtnbdoidccacdnaaGreatDoor.Pm
namespace Go.Proofs.YtnbdoidccacdnaaGreatDoor.Pn
open Ieee Go Gp Gq Gr G9 W0 W1 W2 Pc
theorem told_opp (s : Bool) (m : Nat) (e : Int) : told (some (.number (!s) m e)) = fng (told (some (.number s m e))) := by
  by_cases h0 : m = 0
  · subst h0; rw [told_num0, told_num0]; decide
  · rw [told_num _ h0, told_num _ h0]
    have hl : min (rung (toX m e) (toS e)) infR < sgnW := Nat.lt_of_le_of_lt (Nat.min_le_right _ _) infR_lt
    rw [← neg_word s hl, neg_cn (word_lt2 _ hl)]
theorem told_oppI (s : Bool) : told (some (.infinity (!s))) = fng (told (some (.infinity s))) := by cases s <;> decide
theorem fmul_fng {y e : Nat} (h : y < 2 * sgnW) (hc : cn y = y) (h1 : 1 ≤ e) (h2 : e ≤ 2046) : fmul (fng y) (P2 e) = fng (fmul y (P2 e)) := by
  have hP := (P2_facts h1 h2).1
  have e1 : fng y = cn (Op.negFloat .f64 y) := rfl
  have e2 : fmul (cn (Op.negFloat .f64 y)) (P2 e) = fmul (Op.negFloat .f64 y) (P2 e) := by
    have := fmul_cn (fng_lt' h) hP.lt
    rwa [hP.cl] at this
  rw [e1, e2, xor_top' y h]
  obtain ⟨n1, n2⟩ := word_neg (!fneg y) (word_split h).2
  have nl := word_lt2 (!fneg y) (word_split h).2
  unfold fmul
  rw [read_P2 h1 h2]
  rcases cls h hc with hx | hx | rfl
  · rw [read_fin hx.lt hx.fin, read_fin nl (by rw [n2]; exact hx.fin), n1, n2]
    simp only [Datum.product, Bool.xor_false]
    exact told_opp _ _ _
  · rw [read_inf h hx, read_inf nl (by rw [n2]; exact hx), n1]
    simp only [Datum.product, show bn ≠ 0 from by decide, if_false, Bool.xor_false]
    exact told_oppI _
  · have g : infR < frung qn := by decide
    rw [read_nan h g, read_nan nl (by rw [n2]; exact g)]
    show qn = fng qn
    decide
def ov (p x : Nat) : Nat := fdiv x (P2 (1023 + p))
theorem inv_ov {p : Nat} {X Y x y : List Nat} (hp : p ≤ 7) (h : (x, y) = intoN p (X, Y.map fng)) (hx : ∀ a ∈ x, a < 2 * sgnW ∧ cn a = a) (hy : ∀ a ∈ y, a < 2 * sgnW ∧ cn a = a) :
    invN p (X, Y) = (x.map (ov p), y.map (fun a => ov p (fng a))) := by
  unfold invN
  rw [← h]
  simp only [List.map_map, Prod.mk.injEq]
  constructor
  · apply List.map_congr_left
    intro a ha
    exact (fdiv_P2 (hx a ha).1 (hx a ha).2 (by omega)).symm
  · apply List.map_congr_left
    intro a ha
    have e := fdiv_P2 (x := fng a) (p := p) (fng_lt (hy a ha).1) (cn_fng a) (by omega)
    show fng (fmul a (P2 (1023 - p))) = ov p (fng a)
    unfold ov
    rw [e, fmul_fng (hy a ha).1 (hy a ha).2 (by omega) (by omega)]
end Go.Proofs.YtnbdoidccacdnaaGreatDoor.Pn
namespace Go.Proofs.YtnbdoidccacdnaaGreatDoor.Lc
open Ieee Go Go.RowKit Go.Proofs Go.Proofs.YtnbdoidccacdnaaGreatDoor Ow Dt Gp I0 U0 W0 S4 S6 P0 M0 M1 M2 M3 P4 P5 P6 P8 Pa Pb W4 W5 W1 W2 Pc Pe Pg Ph Go.Proofs.YtnbdoidccacdnaaGreatDoor.Pi Pj Pk Lv La Pm Pn
attribute [local go_sem ↓] Go.wp_at_zero Go.wp_at_succ
theorem run_ov {P : Program} {p : Nat} (hp : p ≤ 7) (t : TypeId) {a : Nat} (ha : a < 2 * sgnW) (w : World) :
    ∃ r w', (binOp .quo t (.float .f64 a) (.float .f64 (P2 (1023 + p)))).run P w = .ok (.float .f64 r) w' ∧ Bel w w' ∧ r < 2 * sgnW ∧ cn r = ov p (cn a) := by
  obtain ⟨r, w', h1, h2, h3, h4⟩ := run_fop (P := P) .quo (fun x y => (double.read x).quotient (double.fractionBits + 2) (double.read y)) (fun _ _ => rfl) (.inr (.inr (.inr rfl))) t a (P2 (1023 + p)) w
  refine ⟨r, w', h1, drew_bel w h2, h3, h4.trans ?_⟩
  unfold ov
  rw [fdiv_cn ha (by omega) (by omega)]; rfl
theorem fz_in {w : World} {b n c : Nat} {X : List Nat} (h : Fz w b X) (hn : X.length = n) (hl : n ≤ 100000) (h1 : n ≤ c) (h2 : c ≤ 9223372036854775807) : In w (.slice (some ⟨b, 0, none⟩) n c) X := by
  subst hn
  exact ⟨_, c, rfl, h1, h2, h.fr (by omega), fun e => by cases e⟩
theorem swap_law {p : Nat} {X Y X4 Y4 : List Nat} (hp : p ≤ 7) (h : (X4, Y4) = intoN p (X, Y.map fng)) (hx : Cl X4) (hy : Cl Y4) {X2 Y2 : List Nat} (h2 : (X2, Y2) = invN p (X, Y)) :
    true = decide (X2 = X4.map (ov p) ∧ Y2 = Y4.map (fun a => ov p (fng a))) := by
  rw [inv_ov hp h hx hy] at h2
  simp only [Prod.mk.injEq] at h2
  simp [h2.1, h2.2]
set_option maxRecDepth 100000 in
set_option maxHeartbeats 16000000 in
theorem swap13 {A B : Option Addr} {c d : Nat} {X Y : List Nat} (w : World) (T : Tab w) (hx : In w (.slice A X.length c) X) (hy : In w (.slice B Y.length d) Y) :
    Calls Tryz.prog 14 #[.agg #[.slice A X.length c, .slice B Y.length d]] w (fun e w' => e = .returned (.bool true) ∧ Bel w w') := by
  have TT := Ho.mk T
  have HX := Ho.mk hx
  have HY := Ho.mk hy
  clear T hx hy
  by_cases hs : X.length ≤ 64 ∧ Y.length ≤ 64
  · obtain ⟨hs1, hs2⟩ := hs
    have HS := Ho.mk (And.intro hs1 hs2)
    cases hok : okP X.length Y.length with
    | false =>
      have HOK := Ho.mk hok
      clear hok
      go_enter Tryz.func14, Tryz.ntmps14
      go_wp2_with fail
      have BV := Ho.mk (Blk.new w [.slice A X.length c, .slice B Y.length d] 24)
      have g1 := Ho.mk ((Bel.refl w).alloc (.cells #[.slice A X.length c, .slice B Y.length d] 24))
      generalize w.alloc (.cells #[.slice A X.length c, .slice B Y.length d] 24) = v2 at *
      have C3 := Ho.mk (head13 v2 (TT.out.bel g1.out))
      (with_reducible refine C3.out.mono ?_); rintro e v4 ⟨rfl, b5⟩
      have b5H := Ho.mk b5
      clear C3 b5
      have y6 := ((BV.out.bel b5H.out)).cell (i := 0) rfl
      have y7 := ((BV.out.bel b5H.out)).cell (i := 1) rfl
      go_wp2_with fail
      have sm : decide (X.length ≤ 64 ∧ Y.length ≤ 64) = true := decide_eq_true HS.out
      have C8 := Ho.mk ((by have h := dSmall (n := X.length) (m := Y.length) (A := A) (B := B) (c := c) (c' := d) v4; rw [sm] at h; exact h : Calls Tryz.prog 16 #[.agg #[.slice A X.length c, .slice B Y.length d]] v4 (fun e w' => e = .returned (.bool true) ∧ Bel v4 w')))
      (with_reducible refine C8.out.mono ?_); rintro e v9 ⟨rfl, b10⟩
      have b10H := Ho.mk b10
      clear C8 b10
      clear y6 y7 sm
      have y11 := ((BV.out.bel (b5H.out.trans b10H.out))).cell (i := 0) rfl
      have y12 := ((BV.out.bel (b5H.out.trans b10H.out))).cell (i := 1) rfl
      go_wp2_with fail
      have C13 := Ho.mk ((by have h := dRight (n := X.length) (m := Y.length) (A := A) (B := B) (c := c) (c' := d) v9 (by omega) (by omega); rw [HOK.out] at h; exact h : Calls Tryz.prog 26 #[.agg #[.slice A X.length c, .slice B Y.length d]] v9 (fun e w' => e = .returned (.bool false) ∧ Bel v9 w')))
      (with_reducible refine C13.out.mono ?_); rintro e v14 ⟨rfl, b15⟩
      have b15H := Ho.mk b15
      clear C13 b15
      go_wp2
      go_ret
      exact ⟨rfl, (((g1.out.trans b5H.out).trans b10H.out).trans b15H.out)⟩
    | true =>
      have HOK := Ho.mk hok
      obtain ⟨hn1, hn2, hn3⟩ := okP_pow hok
      obtain ⟨p, hp⟩ : ∃ p, p = Nat.log2 X.length := ⟨_, rfl⟩
      have hp7 : p ≤ 7 := by
        apply Nat.le_of_not_lt; intro q
        have : 2 ^ 8 ≤ 2 ^ p := Nat.pow_le_pow_right (by decide) q
        rw [hp, ← hn1] at this; omega
      have h0 : 0 < X.length := by rw [hn1]; exact Nat.two_pow_pos _
      have hY0 : 0 < Y.length := by omega
      have eIf : ifR X Y = invN p (X, Y) := by unfold ifR; rw [if_pos hok]; unfold invR; rw [if_pos hok, hp]
      have eFf : ffR X (Y.map fng) = intoN p (X, Y.map fng) := by unfold ffR; rw [List.length_map, if_pos hok]; unfold fftR; rw [List.length_map, if_pos hok, hp]
      have eE : errR X Y = 0 := by unfold errR; rw [if_pos hok]
      have eE3 : errR X (Y.map fng) = 0 := by unfold errR; rw [List.length_map, if_pos hok]
      have HE := Ho.mk (And.intro (And.intro eIf eFf) (And.intro eE eE3))
      have LI := Ho.mk (ifR_len hok)
      have LF := Ho.mk (ffR_len (X := X) (Y := Y.map fng) (by rw [List.length_map]; exact hok))
      have cv1 := (conv_ok ⟨p, by omega⟩).1
      dsimp only at cv1
      rw [show 2 ^ p = X.length from by rw [hp]; exact hn1.symm] at cv1
      have HL := Ho.mk hn2
      have HP := Ho.mk hp7
      clear hok hn1 hn2 hn3 hp eIf eFf eE eE3 hp7
      go_enter Tryz.func14, Tryz.ntmps14
      go_wp2_with fail
      have BV := Ho.mk (Blk.new w [.slice A X.length c, .slice B Y.length d] 24)
      have g1 := Ho.mk ((Bel.refl w).alloc (.cells #[.slice A X.length c, .slice B Y.length d] 24))
      generalize w.alloc (.cells #[.slice A X.length c, .slice B Y.length d] 24) = v2 at *
      have C3 := Ho.mk (head13 v2 (TT.out.bel g1.out))
      (with_reducible refine C3.out.mono ?_); rintro e v4 ⟨rfl, b5⟩
      have b5H := Ho.mk b5
      clear C3 b5
      have y6 := ((BV.out.bel b5H.out)).cell (i := 0) rfl
      have y7 := ((BV.out.bel b5H.out)).cell (i := 1) rfl
      go_wp2_with fail
      have sm : decide (X.length ≤ 64 ∧ Y.length ≤ 64) = true := decide_eq_true HS.out
      have C8 := Ho.mk ((by have h := dSmall (n := X.length) (m := Y.length) (A := A) (B := B) (c := c) (c' := d) v4; rw [sm] at h; exact h : Calls Tryz.prog 16 #[.agg #[.slice A X.length c, .slice B Y.length d]] v4 (fun e w' => e = .returned (.bool true) ∧ Bel v4 w')))
      (with_reducible refine C8.out.mono ?_); rintro e v9 ⟨rfl, b10⟩
      have b10H := Ho.mk b10
      clear C8 b10
      clear y6 y7 sm
      have y11 := ((BV.out.bel (b5H.out.trans b10H.out))).cell (i := 0) rfl
      have y12 := ((BV.out.bel (b5H.out.trans b10H.out))).cell (i := 1) rfl
      go_wp2_with fail
      have C13 := Ho.mk ((by have h := dRight (n := X.length) (m := Y.length) (A := A) (B := B) (c := c) (c' := d) v9 (by omega) (by omega); rw [HOK.out] at h; exact h : Calls Tryz.prog 26 #[.agg #[.slice A X.length c, .slice B Y.length d]] v9 (fun e w' => e = .returned (.bool true) ∧ Bel v9 w')))
      (with_reducible refine C13.out.mono ?_); rintro e v14 ⟨rfl, b15⟩
      have b15H := Ho.mk b15
      clear C13 b15
      clear y11 y12
      go_upto_region 4 with fail
      have y16 := ((BV.out.bel ((b5H.out.trans b10H.out).trans b15H.out))).cell (i := 0) rfl
      have y17 := ((BV.out.bel ((b5H.out.trans b10H.out).trans b15H.out))).cell (i := 1) rfl
      go_wp2_with fail
      obtain ⟨X2, Y2, hXY2⟩ : ∃ X2 Y2, (X2, Y2) = ifR X Y := ⟨_, _, rfl⟩
      have C18 := Ho.mk (pIfft (TT.out.bel (((g1.out.trans b5H.out).trans b10H.out).trans b15H.out)) ((HX.out.bel (((g1.out.trans b5H.out).trans b10H.out).trans b15H.out))) ((HY.out.bel (((g1.out.trans b5H.out).trans b10H.out).trans b15H.out))) (by omega) (by omega) hXY2 HE.out.2.1.symm)
      (with_reducible refine C18.out.mono ?_); rintro e v19 ⟨R2, c2, Q2, d2, rfl, t2, b20⟩
      have b20H := Ho.mk b20
      have T2 := Ho.mk t2
      clear C18 b20 t2
      rw [← hXY2] at LI
      have HXY2 := Ho.mk hXY2
      clear hXY2
      clear y16 y17
      go_upto_region 5 with fail
      have B4 := Ho.mk (Blk.new v19 [.slice R2 X2.length c2, .slice Q2 Y2.length d2] 24)
      have g21 := Ho.mk ((Bel.refl v19).alloc (.cells #[.slice R2 X2.length c2, .slice Q2 Y2.length d2] 24))
      generalize v19.alloc (.cells #[.slice R2 X2.length c2, .slice Q2 Y2.length d2] 24) = v22 at *
      have y23 := ((BV.out.bel ((((b5H.out.trans b10H.out).trans b15H.out).trans b20H.out).trans g21.out))).cell (i := 0) rfl
      have y24 := ((BV.out.bel ((((b5H.out.trans b10H.out).trans b15H.out).trans b20H.out).trans g21.out))).cell (i := 1) rfl
      go_wp2_with fail
      obtain ⟨Y3, hY3⟩ : ∃ Y3, Y3 = Y.map fng := ⟨_, rfl⟩
      have C25 := Ho.mk (pConj (TT.out.bel (((((g1.out.trans b5H.out).trans b10H.out).trans b15H.out).trans b20H.out).trans g21.out)) ((HX.out.bel (((((g1.out.trans b5H.out).trans b10H.out).trans b15H.out).trans b20H.out).trans g21.out))) ((HY.out.bel (((((g1.out.trans b5H.out).trans b10H.out).trans b15H.out).trans b20H.out).trans g21.out))) (by omega) (by omega) hY3)
      (with_reducible refine C25.out.mono ?_); rintro e v26 ⟨R3, c3, Q3, d3, rfl, t3, b27⟩
      have b27H := Ho.mk b27
      have T3 := Ho.mk t3
      clear C25 b27 t3
      have lY3 : Y3.length = Y.length := by rw [hY3, List.length_map]
      have LY3 := Ho.mk lY3
      rw [← hY3] at LF HE
      have HY3 := Ho.mk hY3
      clear hY3 lY3
      obtain ⟨X4, Y4, hXY4⟩ : ∃ X4 Y4, (X4, Y4) = ffR X Y3 := ⟨_, _, rfl⟩
      clear y23 y24
      go_wp2_with fail
      have C28 := Ho.mk (pFft (TT.out.bel ((((((g1.out.trans b5H.out).trans b10H.out).trans b15H.out).trans b20H.out).trans g21.out).trans b27H.out)) (inn T3.out.one (by omega)) (inn T3.out.two (by rw [LY3.out]; omega)) (by omega) (by rw [LY3.out]; omega) hXY4 HE.out.2.2.symm)
      (with_reducible refine C28.out.mono ?_); rintro e v29 ⟨R4, c4, Q4, d4, rfl, t4, b30⟩
      have b30H := Ho.mk b30
      have T4 := Ho.mk t4
      clear C28 b30 t4
      rw [← hXY4] at LF
      have HXY4 := Ho.mk hXY4
      clear hXY4
      have l4 : X4.length = X.length := LF.out.1
      have l4y : Y4.length = X.length := LF.out.2.trans (LY3.out.trans HL.out)
      obtain ⟨bR, cr, eR1, hcR, hcR2, fR, lR⟩ := T4.out.one.at_ (by rw [l4]; exact h0)
      obtain ⟨bI, ci, eI1, hcI, hcI2, fI, lI⟩ := T4.out.two.at_ (by rw [l4y]; exact h0)
      have ne := T4.out.ne bR bI 0 0 _ _ _ _ eR1 eI1 (by rw [l4]; exact h0) (by rw [l4y]; exact h0)
      cases eR1; cases eI1
      have FX := Ho.mk fR
      have FY := Ho.mk fI
      have NE := Ho.mk (And.intro ne (And.intro lR lI))
      have CP := Ho.mk (And.intro (And.intro hcR hcR2) (And.intro hcI hcI2))
      have L4 := Ho.mk l4
      have L4Y := Ho.mk l4y
      clear l4 l4y ne lR lI fR fI hcR hcR2 hcI hcI2
      rw [L4.out, L4Y.out]
      go_upto_region 6 with fail
      have lb1 := FX.out.lt
      have lb2 := FY.out.lt
      have NB : Ho (v29.heap.size ≠ bR ∧ v29.heap.size ≠ bI) := ⟨by omega, by omega⟩
      clear lb1 lb2
      have B6 := Ho.mk (Blk.new v29 [.slice (some ⟨bR, 0, none⟩) X.length c4, .slice (some ⟨bI, 0, none⟩) X.length d4] 24)
      have g31 := Ho.mk ((Bel.refl v29).alloc (.cells #[.slice (some ⟨bR, 0, none⟩) X.length c4, .slice (some ⟨bI, 0, none⟩) X.length d4] 24))
      generalize v29.alloc (.cells #[.slice (some ⟨bR, 0, none⟩) X.length c4, .slice (some ⟨bI, 0, none⟩) X.length d4] 24) = v32 at *
      have y33 := ((BV.out.bel (((((((b5H.out.trans b10H.out).trans b15H.out).trans b20H.out).trans g21.out).trans b27H.out).trans b30H.out).trans g31.out))).cell (i := 0) rfl
      have y34 := ((BV.out.bel (((((((b5H.out.trans b10H.out).trans b15H.out).trans b20H.out).trans g21.out).trans b27H.out).trans b30H.out).trans g31.out))).cell (i := 1) rfl
      have y35 := (B6.out).cell (i := 0) rfl
      have y36 := (B6.out).cell (i := 1) rfl
      go_wp2_with fail
      have FX := Ho.mk ((FX.out.bel g31.out))
      have FY := Ho.mk ((FY.out.bel g31.out))
      clear y33 y34 y35 y36
      go_loopw [9] (fun v wr => ∃ (i : Nat), i ≤ X.length ∧ v = .int .i64 i ∧ Ho (Fz wr bR (upMap (ov p) X4 i)) ∧ Ho (Fz wr bI (upMap (fun a => ov p (fng a)) Y4 i)) ∧ Ho (Gr2 bR bI v32 wr)) (fun v _ => X.length - (intOf v).toNat)
      case atStart => exact ⟨0, Nat.zero_le _, rfl, ⟨by rw [upMap_zero]; exact FX.out⟩, ⟨by rw [upMap_zero]; exact FY.out⟩, ⟨Gr2.refl _ _ _⟩⟩
      case round =>
        obtain ⟨i, hi, rfl, GX, GY, HG⟩ := hrel
        have KB := Ho.mk (HG.out.blk B6.out NB.out.1 NB.out.2)
        have y0 := KB.out.cell (i := 0) rfl
        have y1 := KB.out.cell (i := 1) rfl
        rcases Nat.lt_or_ge i X.length with hlt | hge
        · obtain ⟨r1, y2, rl, rc⟩ := GX.out.at_ (i := i) (by rw [upMap_len _ _ (by rw [L4.out]; exact hi), L4.out]; exact hlt)
          rw [upMap_at _ _ (by rw [L4.out]; exact hlt)] at rc
          have HR := Ho.mk (And.intro rl rc)
          clear rl rc
          have OV := Ho.mk (fun (a : Nat) (h : a < 2 * sgnW) (w : World) => run_ov (P := Tryz.prog) HP.out 50 h w)
          go_upto_region 12 with fail
          refine I7.wp_region_late 11 (S := fun w' => Bel wr w') (by kernel_rfl) (Bel.refl _).drew (fun hHeld => ?_)
          (try dsimp only at hHeld)
          refine I7.kt (i := 0) hHeld ?_
          refine I7.kl (i := 1) (v := ?_) hHeld (fun w hSw => ?_) ?_
          rotate_left
          · (have z0 := hSw.cell y0; go_simp; try (with_reducible rfl))
          refine I7.kt (i := 2) hHeld ?_
          refine I7.kt (i := 3) hHeld ?_
          refine I7.kl (i := 4) (v := ?_) hHeld (fun w hSw => ?_) ?_
          rotate_left
          · (have z0 := hSw.cell y0; go_simp; try (with_reducible rfl))
          refine I7.kt (i := 5) hHeld ?_
          refine I7.kt (i := 6) hHeld ?_
          refine I7.kl (i := 7) (v := ?_) hHeld (fun w hSw => ?_) ?_
          rotate_left
          · (have z0 := hSw.cell y2; go_simp; try (with_reducible rfl))
          refine I7.kt (i := 8) hHeld ?_
          try simp only [Act.put, List.setIfInBounds_toArray, List.set_cons_zero, List.set_cons_succ]
          refine I7.kc (i := 9) (fun K hK => ?_)
          go_simp
          obtain ⟨q1, w1, hq, bq, ql, qc⟩ := OV.out _ HR.out.1 wr.drew
          simp only [hq]
          refine hK.out _ _ (Bel.trans hHeld bq) (fun hHeld => ?_)
          clear hK K
          refine I7.kt (i := 10) hHeld ?_
          have HC := Ho.mk (And.intro ql qc)
          have GX := Ho.mk (GX.out.bel ((Bel.refl wr).drew.trans bq))
          have GY := Ho.mk (GY.out.bel ((Bel.refl wr).drew.trans bq))
          have HG := Ho.mk (HG.out.tb ((Bel.refl wr).drew.trans bq))
          have KB := Ho.mk (KB.out.bel ((Bel.refl wr).drew.trans bq))
          obtain ⟨_, z1, _, _⟩ := GX.out.at_ (i := i) (by rw [upMap_len _ _ (by rw [L4.out]; exact hi), L4.out]; exact hlt)
          have z2 := GX.out.free i
          try simp only [Act.put, List.setIfInBounds_toArray, List.set_cons_zero, List.set_cons_succ]
          refine I7.ke (i := 11) (fun K hK => ?_)
          go_simp
          refine hK.out _ _ ?_
          clear hK K
          try simp only [Act.put, List.setIfInBounds_toArray, List.set_cons_zero, List.set_cons_succ]
          refine wpAny_done (by kernel_rfl) ?_ _
          have GX := GX.out.set i HC.out.1 HC.out.2
          rw [HR.out.2, upMap_set (ov p) _ (by rw [L4.out]; exact hlt)] at GX
          have GX := Ho.mk GX
          have GY := Ho.mk (GY.out.far (p := ⟨bR, i, none⟩) (by dsimp only; exact Ne.symm NE.out.1) (.float .f64 q1))
          have HG := Ho.mk (HG.out.set (p := ⟨bR, i, none⟩) (.inl rfl) (.float .f64 q1))
          have KB := Ho.mk (KB.out.far (p := ⟨bR, i, none⟩) (by dsimp only; exact NB.out.1) (.float .f64 q1))
          clear z1 z2 y0 y1 y2
          generalize World.setCell w1 ⟨bR, i, none⟩ (.float .f64 q1) = ws at *
          have y0 := KB.out.cell (i := 0) rfl
          have y1 := KB.out.cell (i := 1) rfl
          obtain ⟨r2, y2, sl, sc⟩ := GY.out.at_ (i := i) (by rw [upMap_len _ _ (by rw [L4Y.out]; exact hi), L4Y.out]; exact hlt)
          rw [upMap_at _ _ (by rw [L4Y.out]; exact hlt)] at sc
          have HR2 := Ho.mk (And.intro sl sc)
          clear sl sc hq
          go_upto_region 13 with fail
          refine I7.wp_region_late 12 (S := fun w' => Bel ws w') (by kernel_rfl) (Bel.refl _).drew (fun hHeld => ?_)
          (try dsimp only at hHeld)
          refine I7.kt (i := 0) hHeld ?_
          refine I7.kl (i := 1) (v := ?_) hHeld (fun w hSw => ?_) ?_
          rotate_left
          · (have z0 := hSw.cell y1; go_simp; try (with_reducible rfl))
          refine I7.kt (i := 2) hHeld ?_
          refine I7.kt (i := 3) hHeld ?_
          refine I7.kl (i := 4) (v := ?_) hHeld (fun w hSw => ?_) ?_
          rotate_left
          · (have z0 := hSw.cell y1; go_simp; try (with_reducible rfl))
          refine I7.kt (i := 5) hHeld ?_
          refine I7.kt (i := 6) hHeld ?_
          refine I7.kl (i := 7) (v := ?_) hHeld (fun w hSw => ?_) ?_
          rotate_left
          · (have z0 := hSw.cell y2; go_simp; try (with_reducible rfl))
          refine I7.kt (i := 8) hHeld ?_
          refine I7.kt (i := 9) hHeld ?_
          try simp only [Act.put, List.setIfInBounds_toArray, List.set_cons_zero, List.set_cons_succ]
          refine I7.kc (i := 10) (fun K hK => ?_)
          go_simp
          obtain ⟨q2, w2, hq, bq2, ql, qc⟩ := OV.out _ (fng_lt' HR2.out.1) ws.drew
          simp only [hq]
          refine hK.out _ _ (Bel.trans hHeld bq2) (fun hHeld => ?_)
          clear hK K
          refine I7.kt (i := 11) hHeld ?_
          have HC := Ho.mk (And.intro ql qc)
          have GX := Ho.mk (GX.out.bel ((Bel.refl ws).drew.trans bq2))
          have GY := Ho.mk (GY.out.bel ((Bel.refl ws).drew.trans bq2))
          have HG := Ho.mk (HG.out.tb ((Bel.refl ws).drew.trans bq2))
          have KB := Ho.mk (KB.out.bel ((Bel.refl ws).drew.trans bq2))
          obtain ⟨_, z1, _, _⟩ := GY.out.at_ (i := i) (by rw [upMap_len _ _ (by rw [L4Y.out]; exact hi), L4Y.out]; exact hlt)
          have z2 := GY.out.free i
          try simp only [Act.put, List.setIfInBounds_toArray, List.set_cons_zero, List.set_cons_succ]
          refine I7.ke (i := 12) (fun K hK => ?_)
          go_simp
          refine hK.out _ _ ?_
          clear hK K
          try simp only [Act.put, List.setIfInBounds_toArray, List.set_cons_zero, List.set_cons_succ]
          refine wpAny_done (by kernel_rfl) ?_ _
          have GY := GY.out.set i HC.out.1 HC.out.2
          rw [neg_cn HR2.out.1, HR2.out.2] at GY; have GY := (upMap_set (fun a => ov p (fng a)) Y4 (i := i) (by rw [L4Y.out]; exact hlt)) ▸ GY
          have GY := Ho.mk GY
          have GX := Ho.mk (GX.out.far (p := ⟨bI, i, none⟩) (by dsimp only; exact NE.out.1) (.float .f64 q2))
          have HG := Ho.mk (HG.out.set (p := ⟨bI, i, none⟩) (.inr rfl) (.float .f64 q2))
          have KB := Ho.mk (KB.out.far (p := ⟨bI, i, none⟩) (by dsimp only; exact NB.out.2) (.float .f64 q2))
          clear z1 z2 y0 y1 y2
          generalize World.setCell w2 ⟨bI, i, none⟩ (.float .f64 q2) = wt at *
          go_wp2_with fail
          go_roundw
          case rel => exact ⟨i + 1, by omega, by simp, GX, GY, HG⟩
          case measure => simp [intOf]; omega
        · obtain rfl : i = X.length := by omega
          have HB := Ho.mk (HG.out.bel (b30H.out.trans g31.out) NE.out.2.1 NE.out.2.2)
          have y37 := ((B4.out.bel (b27H.out.trans HB.out))).cell (i := 0) rfl
          have y38 := ((B4.out.bel (b27H.out.trans HB.out))).cell (i := 1) rfl
          have GX := GX.out
          have GY := GY.out
          have eX : upMap (ov p) X4 X.length = X4.map (ov p) := by rw [← L4.out, upMap_all]
          have eY : upMap (fun a => ov p (fng a)) Y4 X.length = Y4.map (fun a => ov p (fng a)) := by rw [← L4Y.out, upMap_all]
          rw [eX] at GX
          rw [eY] at GY
          have GX := Ho.mk GX
          have GY := Ho.mk GY
          clear eX eY
          have LW := Ho.mk (swap_law HP.out (X := X) (Y := Y) (by rw [← HY3.out, ← HE.out.1.2]; exact HXY4.out) (Fz.cl FX.out) (Fz.cl FY.out) (X4 := X4) (Y4 := Y4) (X2 := X2) (Y2 := Y2) (by rw [← HE.out.1.1]; exact HXY2.out))
          go_wp2_with fail
          have C39 := Ho.mk (pSame (z := true) (inn (T2.out.bel ((g21.out.trans b27H.out).trans HB.out)).one (by rw [LI.out.1]; omega)) (inn (T2.out.bel ((g21.out.trans b27H.out).trans HB.out)).two (by rw [LI.out.2]; omega)) (fz_in (n := X.length) (c := c4) GX.out (by rw [List.length_map]; exact L4.out) (by omega) (by rw [← L4.out]; exact CP.out.1.1) CP.out.1.2) (fz_in (n := X.length) (c := d4) GY.out (by rw [List.length_map]; exact L4Y.out) (by omega) (by rw [← L4Y.out]; exact CP.out.2.1) CP.out.2.2) (by rw [LI.out.1]; omega) (by rw [LI.out.2]; omega) (by rw [List.length_map, L4.out]; omega) (by rw [List.length_map, L4Y.out]; omega) LW.out)
          (with_reducible refine C39.out.mono ?_); rintro e v40 ⟨rfl, b41⟩
          have b41H := Ho.mk b41
          clear C39 b41
          go_wp2
          go_ret
          exact ⟨rfl, ((((((((g1.out.trans b5H.out).trans b10H.out).trans b15H.out).trans b20H.out).trans g21.out).trans b27H.out).trans HB.out).trans b41H.out)⟩
  · have sm : decide (X.length ≤ 64 ∧ Y.length ≤ 64) = false := decide_eq_false hs
    have SM := Ho.mk sm
    clear sm hs
    go_enter Tryz.func14, Tryz.ntmps14
    go_wp2_with fail
    have BV := Ho.mk (Blk.new w [.slice A X.length c, .slice B Y.length d] 24)
    have g1 := Ho.mk ((Bel.refl w).alloc (.cells #[.slice A X.length c, .slice B Y.length d] 24))
    generalize w.alloc (.cells #[.slice A X.length c, .slice B Y.length d] 24) = v2 at *
    have C3 := Ho.mk (head13 v2 (TT.out.bel g1.out))
    (with_reducible refine C3.out.mono ?_); rintro e v4 ⟨rfl, b5⟩
    have b5H := Ho.mk b5
    clear C3 b5
    have y6 := ((BV.out.bel b5H.out)).cell (i := 0) rfl
    have y7 := ((BV.out.bel b5H.out)).cell (i := 1) rfl
    go_wp2_with fail
    have C8 := Ho.mk ((by have h := dSmall (n := X.length) (m := Y.length) (A := A) (B := B) (c := c) (c' := d) v4; rw [SM.out] at h; exact h : Calls Tryz.prog 16 #[.agg #[.slice A X.length c, .slice B Y.length d]] v4 (fun e w' => e = .returned (.bool false) ∧ Bel v4 w')))
    (with_reducible refine C8.out.mono ?_); rintro e v9 ⟨rfl, b10⟩
    have b10H := Ho.mk b10
    clear C8 b10
    go_wp2
    go_ret
    exact ⟨rfl, ((g1.out.trans b5H.out).trans b10H.out)⟩
theorem swap13_door (A : Option Addr) (c : Nat) (X : List Nat) (B : Option Addr) (d : Nat) (Y : List Nat) (w : World) (T : Tab w) (hx : In w (.slice A X.length c) X) (hy : In w (.slice B Y.length d) Y) :
    Calls Tryz.prog 14 #[.agg #[.slice A X.length c, .slice B Y.length d]] w (fun e w' => e = .returned (.bool true) ∧ Bel w w') := swap13 w T hx hy
end Go.Proofs.YtnbdoidccacdnaaGreatDoor.Lc
namespace Go.Proofs.YtnbdoidccacdnaaGreatDoor.Pf
open Go Go.ChangeShapes Go.WideShapes Go.ChangeAt Go.RowKit Go.Proofs.YtnbdoidccacdnaaGreatDoor Ow Dt Gp W0 W4 W5 Pg Pd
section
variable {H : Type} {enc : TypeId × Value → H} {P : Program} {w : World} {base : Nat} {spare : Nat → Bool} {held : Bool} {fuel m : Nat} {t : TypeId} {cs : List Value} {x : DataW H × List MemPlace}
theorem trod_float {k : FloatKind} (ht : P.underlying t = some (.float k)) (h : DataW.trod enc P w base spare held fuel t cs = some x) : ∃ n, cs = [.float k n] ∧ x = (.lit (.float k n), []) ∧ (Lit.float k n).wf = true := by
  cases fuel with
  | zero => simp [DataW.trod] at h
  | succ n =>
    unfold DataW.trod at h
    rw [ht] at h
    split at h <;> simp_all
end
theorem wf_lt {b : Nat} (h : (Lit.float .f64 b).wf = true) : b < 2 * sgnW := by
  have : b < 2 ^ 64 := by simpa [Lit.wf] using h
  exact this
theorem cV : Tryz.prog.cellsOf 24 = 2 := by kernel_rfl
theorem cF : Tryz.prog.cellsOf 50 = 1 := by kernel_rfl
theorem cS : Tryz.prog.cellsOf 22 = 1 := by kernel_rfl
theorem bytesF : Tryz.prog.bytesOf 50 = 8 := by kernel_rfl
def clsOf (V : Nat → Value) (n : Nat) : List Nat := (List.range n).map fun i => match V i with
  | .float _ b => cn b
  | _ => 0
set_option maxRecDepth 100000 in
theorem open_row {H : Type} {enc : TypeId × Value → H} {W : World} {fuel : Nat} {cs : List Value} {x : DataW H × List MemPlace} (h : DataW.trod enc Tryz.prog W 0 (fun _ => true) true fuel 22 cs = some x)
    (hsz : ∀ n ∈ x.1.weights Tryz.prog 22, n ≤ reachBytes) : ∃ A c X, cs = [.slice A X.length c] ∧ In W (.slice A X.length c) X ∧ X.length ≤ 17592186043904 := by
  rcases Deep.open_slice1 Tryz.underlying22 cF h with ⟨h1, _⟩ | ⟨a, len, cap, m, n, V, D, Pl, rfl, _, hle, hmax, hm, hx, hV⟩
  · exact ⟨none, 0, [], h1, ⟨none, 0, rfl, Nat.le_refl _, by decide, Fr.nil _ _, fun _ => rfl⟩, by simp⟩
  · rw [if_pos rfl] at hm
    have hq : cap * 8 ≤ reachBytes := by
      refine hsz (cap * 8) ?_
      rw [congrArg Prod.fst hx]
      simp only [DataW.weights, Tryz.underlying22, bytesF, List.length_map, List.length_range, List.mem_cons]
      left; rw [hm, Nat.add_sub_cancel' hle]
    have hr : cap ≤ 17592186043904 := by
      have e8 : cap * 8 ≤ 17592186043904 * 8 := Nat.le_trans hq (by decide)
      exact Nat.le_of_mul_le_mul_right e8 (by decide)
    have hlen : (clsOf V len).length = len := by simp [clsOf]
    refine ⟨some a, cap, clsOf V len, by rw [hlen], ⟨some a, cap, by rw [hlen], by rw [hlen]; exact hle, hmax, ⟨by rw [hlen]; omega, fun j hj => ?_⟩, fun e => by cases e⟩, by rw [hlen]; omega⟩
    rw [hlen] at hj
    obtain ⟨k1, k2⟩ := hV j (by omega)
    obtain ⟨b, e, _, hw⟩ := trod_float Tryz.underlying50 k2
    simp only [List.cons.injEq, and_true] at e
    refine ⟨a, V j, rfl, k1, b, e, wf_lt hw, ?_⟩
    rw [nthN_lt (by rw [hlen]; exact hj)]
    simp [clsOf, e]
set_option maxRecDepth 100000 in
theorem open_vec {H : Type} {enc : TypeId × Value → H} {W : World} {base : Nat} {v : Value} {d : DataW H} {p : List MemPlace} (hval : Value.okWide Tryz.prog W .any base 24 v) (hd : DataW.Trod enc Tryz.prog W 0 (fun _ => true) true 24 v d p)
    (hsz : ∀ n ∈ d.weights Tryz.prog 24, n ≤ reachBytes) :
    ∃ A c X B d Y, v = .agg #[.slice A X.length c, .slice B Y.length d] ∧ In W (.slice A X.length c) X ∧ In W (.slice B Y.length d) Y := by
  obtain ⟨cs, rfl, hcs⟩ := okWide_struct Tryz.underlying24 hval
  rw [cV] at hcs
  obtain ⟨fuel, hf⟩ := hd
  obtain ⟨y0, y1, n, hx, hl, t0, t1⟩ := trod_struct2 Tryz.underlying24 hf
  obtain ⟨l⟩ := cs
  match l, hcs with
  | [x0, x1], _ =>
    simp only [cS, Value.cells] at t0 t1
    simp only [List.drop_zero, List.take_succ_cons, List.take_zero, List.drop_succ_cons] at t0 t1
    have hy : d = DataW.agg [y0.1, y1.1] := congrArg Prod.fst hx
    have hy0 : ∀ n ∈ y0.1.weights Tryz.prog 22, n ≤ reachBytes := fun n hn => hsz n (by
      rw [hy]
      simp only [DataW.weights, Tryz.underlying24, List.map_cons, List.map_nil, DataW.weightsEach, List.mem_append]
      exact .inl hn)
    have hy1 : ∀ n ∈ y1.1.weights Tryz.prog 22, n ≤ reachBytes := fun n hn => hsz n (by
      rw [hy]
      simp only [DataW.weights, Tryz.underlying24, List.map_cons, List.map_nil, DataW.weightsEach, List.mem_append]
      exact .inr (.inl hn))
    obtain ⟨A, c, X, e0, i0, _⟩ := open_row t0 hy0
    obtain ⟨B, d, Y, e1, i1, _⟩ := open_row t1 hy1
    simp only [List.cons.injEq, and_true] at e0 e1
    subst e0; subst e1
    exact ⟨A, c, X, B, d, Y, rfl, i0, i1⟩
end Go.Proofs.YtnbdoidccacdnaaGreatDoor.Pf
