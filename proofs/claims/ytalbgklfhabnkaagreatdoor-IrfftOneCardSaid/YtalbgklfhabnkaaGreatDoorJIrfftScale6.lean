/-
  Joined, of what this claim leans on: P8, Pa, Pb, Pc, Pe, Pg, Y3, Po, Y1, Y6, Pk, Pq, Y8, Z1, Lv, Pf, Ld, K2, Ps, K1, K3, M4, W3, Y2, Z2, K4, Le, Y9, Li, Lk.
-/
import Derived.LaidEql
import Derived.Stop.Asserts
import Derived.Laws.Cover2
import Derived.RegionIn
import Derived.Deep.Slices
import Derived.ChangeSame
import Derived.WalkMore
import Derived.ScopeJumps
import Derived.Test.YtalbgklfhabnkaaGreatDoorJIrfftScale5
set_option linter.unusedVariables false
set_option linter.unusedSimpArgs false
set_option maxRecDepth 100000
set_option maxHeartbeats 16000000
namespace Go.Proofs.YtalbgklfhabnkaaGreatDoor
namespace P8
open Ieee Go Go.RowKit Go.Proofs Go.Proofs.YtalbgklfhabnkaaGreatDoor Ow Pl Dp Dt Gp F1 I0 U0 W0 S4 S6 P0 P1 P2 M0 M1 M2 M3 P3 P4 P5 P6 P7 W4
attribute [local go_sem ↓] Go.wp_at_zero Go.wp_at_succ
theorem tab_ne {w : World} {b : Nat} {X : List Nat} (T : Tab w) (h : Fz w b X) (hl : 0 < X.length) : 1 ≠ b := by
 rintro rfl
 have h1 := T.cell 0 (by decide)
 obtain ⟨r, h2, _⟩ := h.at_ hl
 rw [h1] at h2; cases h2
theorem logI_pow {p : Nat} (hp : p ≤ 10) : logI (2 ^ p) = p := by
 have : ∀ p : Fin 11, logI (2 ^ p.val) = (p.val : Int) := by decide
 exact this ⟨p, by omega⟩
def qOf (v : Value) (w : World) : Nat := match v with
 | .pointer (some a) => match w.cell? a with
  | some (.int _ n) => n.toNat
  | _ => 0
 | _ => 0
theorem qOf_blk {w : World} {b : Nat} {t : TypeId} {n : Int} (h : Blk w b t [.int .i64 n]) : qOf (.pointer (some ⟨b, 0, none⟩)) w = n.toNat := by
 unfold qOf; simp only [h.cell (i := 0) rfl]
def stageS (p : Nat) (tab : Nat → Nat × Nat) (st : List Nat × List Nat) (k : Nat) : List Nat × List Nat := loopN (fun q st => stageG opsN (2 ^ q) (2 ^ (p - (q + 1))) (fun k => tab (k * 2 ^ (p - (q + 1)))) st) k st
theorem stageS_len {p : Nat} (tab : Nat → Nat × Nat) {st : List Nat × List Nat} (h1 : st.1.length = 2 ^ p) (h2 : st.2.length = 2 ^ p) {k : Nat} (hk : k ≤ p) : (stageS p tab st k).1.length = 2 ^ p ∧ (stageS p tab st k).2.length = 2 ^ p :=
 stages_len opsN (fun q k => tab (k * 2 ^ (p - (q + 1)))) h1 h2 hk
theorem stageS_succ (p : Nat) (tab : Nat → Nat × Nat) (st : List Nat × List Nat) (k : Nat) : stageS p tab st (k + 1) = stageG opsN (2 ^ k) (2 ^ (p - (k + 1))) (fun j => tab (j * 2 ^ (p - (k + 1)))) (stageS p tab st k) := rfl
theorem _root_.Go.Proofs.YtalbgklfhabnkaaGreatDoor.W4.Gr2.fk {b c : Nat} {w w' : World} (h : Gr2 b c w w') {b' : Nat} {X : List Nat} (k : Fk w b' X) (n1 : b' ≠ b) (n2 : b' ≠ c) : Fk w' b' X := by
 obtain ⟨cs, h1, h2⟩ := k.out; exact ⟨cs, h.blk h1 n1 n2, h2⟩
theorem nth_range {m k : Nat} (f : Nat → Nat) (h : k < m) : nthN ((List.range m).map f) k = f k := nthG_map opsN f h
def mergesS (half : Nat) (tw : Nat → Nat × Nat) (st : List Nat × List Nat) (j : Nat) : List Nat × List Nat := loopN (fun i st => mergeG opsN (i * (2 * half)) half tw st) j st
theorem mergesS_len {half : Nat} {tw : Nat → Nat × Nat} {st : List Nat × List Nat} (j : Nat) : (mergesS half tw st j).1.length = st.1.length ∧ (mergesS half tw st j).2.length = st.2.length := by
 refine loopN_inv (I := fun _ (s : List Nat × List Nat) => s.1.length = st.1.length ∧ s.2.length = st.2.length) j ⟨rfl, rfl⟩ ?_
 intro k s _ h
 have := mergeS_len (k * (2 * half)) half tw s half
 exact ⟨this.1.trans h.1, this.2.trans h.2⟩
theorem mergesS_succ (half : Nat) (tw : Nat → Nat × Nat) (st : List Nat × List Nat) (j : Nat) : mergesS half tw st (j + 1) = mergeG opsN (j * (2 * half)) half tw (mergesS half tw st j) := rfl
theorem swapG_len (od X : List Nat) : (swapG opsN od X).length = X.length := swapK_len od X od.length
theorem dInto {p N c c' b b' : Nat} {X Y : List Nat} (W0 : World) (T : Tab W0) (KX : Fz W0 b X) (KY : Fz W0 b' Y) (hb : b ≠ b') (hN : N = 2 ^ p) (hX : X.length = N) (hY : Y.length = N) (hp7 : p ≤ 7) (hc : N ≤ c) (hc' : N ≤ c') (hC : c ≤ 9223372036854775807) (hC' : c' ≤ 9223372036854775807) :
  Calls Tryz.prog 80 #[.agg #[.slice (some ⟨b, 0, none⟩) N c, .slice (some ⟨b', 0, none⟩) N c']] W0
   fun e w' => e = .returned (.int .i64 0) ∧ Fz w' b (intoG opsN (bitsG p) p (tabW p) (X, Y)).1 ∧ Fz w' b' (intoG opsN (bitsG p) p (tabW p) (X, Y)).2 ∧ Gr2 b b' W0 w' := by
 have hpos : 0 < N := by rw [hN]; exact Nat.two_pow_pos p
 have h128 : N ≤ 128 := by rw [hN]; exact Nat.le_trans (Nat.pow_le_pow_right (by decide) hp7) (by decide)
 have b2 := tab_ne T KX (by omega)
 have b2' := tab_ne T KY (by omega)
 have lp : logI N = p := by rw [hN]; exact logI_pow (by omega)
 have RI : Ho (∀ w, Bel W0 w → Calls Tryz.prog 108 #[.agg #[.slice (some ⟨b, 0, none⟩) N c, .slice (some ⟨b', 0, none⟩) N c']] w (fun e w' => e = .returned (.bool true) ∧ Bel w w')) := ⟨fun w g => by
  have h := dRightV (n := N) (m := N) (c := c) (c' := c') (A := some ⟨b, 0, none⟩) (B := some ⟨b', 0, none⟩) w (T.bel g) (by omega) (by omega)
  rw [lp, show decide (N = N ∧ (0 : Int) ≤ (p : Int)) = true from by simp] at h; exact h⟩
 have LG : Ho (∀ w, Bel W0 w → Calls Tryz.prog 109 #[.int .i64 (N : Int)] w fun e w' => e = .returned (.int .i64 (p : Int)) ∧ w = w') := ⟨fun w g => by
  have h := dLog (n := N) (fn := 109) rfl w (by omega) (T.bel g)
  rw [lp] at h; exact h⟩
 have BI : Ho (∀ w, Calls Tryz.prog 110 #[.int .i64 (p : Int)] w fun e w' => ∃ b, e = .returned (.slice (some ⟨b, 0, none⟩) N N) ∧ Blk w' b 3 (insN (bitsG p)) ∧ w.heap.size ≤ b ∧ Bel w w') := ⟨fun w => by
  have h := dBits (p := p) w rfl hp7
  rw [← hN] at h; exact h⟩
 have TT := Ho.mk T
 have K1 := Ho.mk KX
 have K2 := Ho.mk KY
 have HX := Ho.mk hX
 have HY := Ho.mk hY
 have lb := KX.lt
 have lb' := KY.lt
 have IV := Ho.mk (inv_bits hp7)
 have KV := Ho.mk (Blk.new W0 [.slice (some ⟨b, 0, none⟩) N c, .slice (some ⟨b', 0, none⟩) N c'] 46)
 have g0 := Ho.mk ((Bel.refl W0).alloc (.cells #[.slice (some ⟨b, 0, none⟩) N c, .slice (some ⟨b', 0, none⟩) N c'] 46))
 have HN := Ho.mk hN
 rw [← hN] at IV
 clear KX KY T hX hY lp hN
 go_enter Tryz.func80, Tryz.ntmps80
 go_upto_region 1 with fail
 have hs := Ho.mk (show (W0.alloc (.cells #[.slice (some ⟨b, 0, none⟩) N c, .slice (some ⟨b', 0, none⟩) N c'] 46)).heap.size = W0.heap.size + 1 from World.size_alloc _ _)
 generalize W0.alloc (.cells #[.slice (some ⟨b, 0, none⟩) N c, .slice (some ⟨b', 0, none⟩) N c'] 46) = W at *
 obtain ⟨y0, y1⟩ := KV.out.c2
 go_wp2_with fail
 (with_reducible refine (RI.out _ g0.out).mono ?_); rintro e w1 ⟨rfl, b1⟩
 have KV := Ho.mk (KV.out.bel b1)
 have g1 := Ho.mk (g0.out.trans b1)
 have l1 : W0.heap.size < w1.heap.size := by have := b1.size; have := hs.out; omega
 clear y0 y1 b1 hs g0 RI
 obtain ⟨y0, y1⟩ := KV.out.c2
 go_wp2_with fail
 (with_reducible refine (LG.out _ g1.out).mono ?_); rintro e w1 ⟨rfl, rfl⟩
 go_upto_region 4 with fail
 have KP := Ho.mk (Blk.new w1 [.int .i64 (p : Int)] 3)
 have KV := Ho.mk (KV.out.old (.cells #[.int .i64 (p : Int)] 3))
 have g2 := Ho.mk (g1.out.alloc (.cells #[.int .i64 (p : Int)] 3))
 have l2 : w1.heap.size < (w1.alloc (.cells #[.int .i64 (p : Int)] 3)).heap.size := by rw [World.size_alloc]; exact Nat.lt_succ_self _
 clear y0 y1 g1 LG
 obtain ⟨bp, hbp⟩ : ∃ bp, bp = w1.heap.size := ⟨_, rfl⟩
 rw [← hbp] at KP l2 l1 ⊢
 clear hbp
 generalize w1.alloc (.cells #[.int .i64 (p : Int)] 3) = W2 at *
 have y2 := KP.out.cell (i := 0) rfl
 go_wp2_with fail
 (with_reducible refine (BI.out _).mono ?_); rintro e w3 ⟨bo, rfl, KO, l3, b3⟩
 have KV := Ho.mk (KV.out.bel b3)
 have KP := Ho.mk (KP.out.bel b3)
 have g3 := Ho.mk (g2.out.trans b3)
 have l4 : bp < bo := Nat.lt_of_lt_of_le l2 l3
 have KO := Ho.mk KO
 clear y2 b3 l3 l2 g2 BI
 have y0 := KV.out.cell (i := 0) rfl
 have SW1 := Ho.mk (dSwap (c := c) (co := N) (N := N) w3 (K1.out.bel g3.out) KO.out HX.out IV.out.len IV.out.lt (by omega) (by omega))
 go_wp2_with fail
 (with_reducible refine SW1.out.mono ?_); rintro e w4 ⟨rfl, f4, G4⟩
 have KV := Ho.mk (G4.blk KV.out (by omega))
 have KP := Ho.mk (G4.blk KP.out (by omega))
 have KO := Ho.mk (G4.blk KO.out (by omega))
 have F2 := Ho.mk (gr_fz G4 (K2.out.bel g3.out) (Ne.symm hb))
 have F1 := Ho.mk f4
 have G4 := Ho.mk ((gr2_bel g3.out b b').trans (Gr2.of1 G4))
 clear y0 f4 g3 SW1
 have y1 := KV.out.cell (i := 1) rfl
 have SW2 := Ho.mk (dSwap (c := c') (co := N) (N := N) w4 F2.out KO.out HY.out IV.out.len IV.out.lt (by omega) (by omega))
 go_wp2_with fail
 (with_reducible refine SW2.out.mono ?_); rintro e w5 ⟨rfl, f5, G5⟩
 have KV := Ho.mk (G5.blk KV.out (by omega))
 have KP := Ho.mk (G5.blk KP.out (by omega))
 have F1 := Ho.mk (gr_fz G5 F1.out hb)
 have F2 := Ho.mk f5
 have G5 := Ho.mk (G4.out.trans (Gr2.of2 G5))
 clear y1 f5 G4 SW2 KO
 go_upto_region 7 with fail
 have y2 := KP.out.cell (i := 0) rfl
 have hmi : IntKind.i64.wrap ((IntKind.i64.wrap (2 ^ p)).tdiv 2) = ((N / 2 : Nat) : Int) := by
  have e : ((2 : Int) ^ p) = ((N : Nat) : Int) := by rw [HN.out]; push_cast; rfl
  rw [e, show IntKind.i64.wrap (N : Int) = (N : Int) from by rw [IntKind.wrap_i64]; omega, Int.tdiv_eq_ediv_of_nonneg (by omega), IntKind.wrap_i64]; omega
 have l5 := G5.out.size
 have TB := Ho.mk (fun w (g : Bel w5 w) => dTable (q := p) (m := N / 2) w ((G5.out.tab TT.out b2 b2').bel g) rfl (by omega) hmi (by omega))
 clear hmi
 go_cut [5] from 26 to 30 (fun s5 wy => ∃ (bW bC bS : Nat), s5 = .pointer (some ⟨bW, 0, none⟩) ∧ Ho (Blk wy bW 46 [.slice (some ⟨bC, 0, none⟩) (N / 2) (N / 2), .slice (some ⟨bS, 0, none⟩) (N / 2) (N / 2)]) ∧ Ho (Fk wy bC ((List.range (N / 2)).map fun k => (tabW p k).1)) ∧ Ho (Fk wy bS ((List.range (N / 2)).map fun k => (tabW p k).2)) ∧ Ho (Bel w5 wy) ∧ Ho (W0.heap.size ≤ bW) ∧ Ho (W0.heap.size ≤ bC) ∧ Ho (W0.heap.size ≤ bS))
 case first =>
  refine wp_region_held_drew (S := fun w' => Bel w5 w') (by kernel_rfl) (Bel.refl _).drew (fun hHeld => ?_)
  (try dsimp only at hHeld)
  generalize w5.drew = wx at *
  have n0 := trivial
  repeat' (first
   |
    clear t4
    go_simp
    go_at_call 38
    (with_reducible refine (TB.out _ hHeld).mono ?_); rintro e wx ⟨bC, bS, rfl, fC, fS, lC, lS, bwx⟩
    have FC := Ho.mk fC
    have FS := Ho.mk fS
    have lt_bC := fC.lt
    have lt_bS := fS.lt
    have lwC := hHeld.size
    clear fC fS
    try go_wp2_with fail
    refine hK.out _ _ (Bel.trans hHeld bwx) (fun hHeld => ?_)
    clear hK K
    try have KW := Ho.mk (KW.out.bel bwx)
    try have lt_bW := Nat.lt_of_lt_of_le lt_bW bwx.size
    clear bwx
    try simp only [Act.put, Ow.zS, Ow.zC, Ow.zD]
   |
    clear t5
    go_simp
    have le_bW := hHeld.size
    refine hK.out _ _ (Bel.alloc hHeld _) (fun hHeld => ?_)
    clear hK K
    have KW := Ho.mk (Blk.new wx [.slice none 0 0, .slice none 0 0] 46)
    have ga := (Bel.refl wx).alloc (.cells #[.slice none 0 0, .slice none 0 0] 46)
    try have FC := Ho.mk (FC.out.bel ga)
    try have FS := Ho.mk (FS.out.bel ga)
    try have lt_bC := Nat.lt_of_lt_of_le lt_bC ga.size
    try have lt_bS := Nat.lt_of_lt_of_le lt_bS ga.size
    clear ga
    have lt_bW : wx.heap.size < (World.alloc wx (.cells #[.slice none 0 0, .slice none 0 0] 46)).heap.size := by rw [World.size_alloc]; exact Nat.lt_succ_self _
    try have ne_bC_bW : bC ≠ wx.heap.size := by omega
    try have ne_bS_bW : bS ≠ wx.heap.size := by omega
    generalize wx.heap.size = bW at *
    generalize World.alloc wx (.cells #[.slice none 0 0, .slice none 0 0] 46) = wx at *
    try simp only [Act.put, Ow.zS, Ow.zC, Ow.zD]
   |
    clear t6
    go_simp
    have FC := Ho.mk ((FC.out.far (p := ⟨bW, 0, none⟩) (by dsimp only; omega) (.slice (some ⟨bC, 0, none⟩) (N / 2) (N / 2))).far (p := ⟨bW, 1, none⟩) (by dsimp only; omega) (.slice (some ⟨bS, 0, none⟩) (N / 2) (N / 2)))
    have FS := Ho.mk ((FS.out.far (p := ⟨bW, 0, none⟩) (by dsimp only; omega) (.slice (some ⟨bC, 0, none⟩) (N / 2) (N / 2))).far (p := ⟨bW, 1, none⟩) (by dsimp only; omega) (.slice (some ⟨bS, 0, none⟩) (N / 2) (N / 2)))
    have KW := Ho.mk ((KW.out.set 0 (.slice (some ⟨bC, 0, none⟩) (N / 2) (N / 2))).set 1 (.slice (some ⟨bS, 0, none⟩) (N / 2) (N / 2)))
    simp only [List.set_cons_zero, List.set_cons_succ] at KW
    refine hK.out _ _ ⟨((hHeld.out.setCell (p := ⟨bW, 0, none⟩) (by dsimp only; omega) (.slice (some ⟨bC, 0, none⟩) (N / 2) (N / 2))).setCell (p := ⟨bW, 1, none⟩) (by dsimp only; omega) (.slice (some ⟨bS, 0, none⟩) (N / 2) (N / 2)))⟩ (fun hHeld => ?_)
    clear hK K y0 x0 y1 x1
    have lt_bC : bC < (World.setCell (World.setCell wx ⟨bW, 0, none⟩ (.slice (some ⟨bC, 0, none⟩) (N / 2) (N / 2))) ⟨bW, 1, none⟩ (.slice (some ⟨bS, 0, none⟩) (N / 2) (N / 2))).heap.size := by simpa [World.setCell] using lt_bC
    have lt_bS : bS < (World.setCell (World.setCell wx ⟨bW, 0, none⟩ (.slice (some ⟨bC, 0, none⟩) (N / 2) (N / 2))) ⟨bW, 1, none⟩ (.slice (some ⟨bS, 0, none⟩) (N / 2) (N / 2))).heap.size := by simpa [World.setCell] using lt_bS
    have lt_bW : bW < (World.setCell (World.setCell wx ⟨bW, 0, none⟩ (.slice (some ⟨bC, 0, none⟩) (N / 2) (N / 2))) ⟨bW, 1, none⟩ (.slice (some ⟨bS, 0, none⟩) (N / 2) (N / 2))).heap.size := by simpa [World.setCell] using lt_bW
    generalize World.setCell (World.setCell wx ⟨bW, 0, none⟩ (.slice (some ⟨bC, 0, none⟩) (N / 2) (N / 2))) ⟨bW, 1, none⟩ (.slice (some ⟨bS, 0, none⟩) (N / 2) (N / 2)) = wx at *
    try simp only [Act.put, Ow.zS, Ow.zC, Ow.zD]
   |
    clear n4
    refine wpAnyH_done (by kernel_rfl) ?_ _
   |
    clear n3
    obtain ⟨y0, y1⟩ := KW.out.c2
    have x0 := KW.out.free 0
    have x1 := KW.out.free 1
    refine rc (i := 6) (fun K hK => have t6 := trivial; have n4 := trivial; ?_)
   |
    clear n1
    refine rc (i := 5) (fun K hK => have t5 := trivial; have n3 := trivial; ?_)
   |
    clear n2
    refine rc (i := 4) (fun K hK => have t4 := trivial; have n3 := trivial; ?_)
   |
    clear n0
    refine rl (i := 0) (v := ?_) hHeld (fun w hSw => ?_) ?_
    rotate_left
    ·(have z0 := hSw.cell y2; go_simp; try (with_reducible rfl))
    refine rl (i := 1) (v := ?_) hHeld (fun w hSw => ?_) ?_
    rotate_left
    ·(have z0 := hSw.cell y2; go_simp; try (with_reducible rfl))
    refine rt (i := 2) hHeld ?_
    refine rt (i := 3) hHeld ?_
    try simp only [Act.put, Ow.zS, Ow.zC, Ow.zD]
    refine I6.rc2 (i := 4) (j := 5) (fun K hK => have t4 := trivial; have n1 := trivial; ?_) (fun K hK => have t5 := trivial; have n2 := trivial; ?_))
  all_goals
   go_wp2_with fail
   go_meet
   exact ⟨bW, bC, bS, rfl, KW, FC, FS, ⟨hHeld⟩, ⟨by omega⟩, ⟨by omega⟩, ⟨by omega⟩⟩
 case rest =>
  obtain ⟨bW, bC, bS, rfl, KW, FC, FS, HB, LW, LC, LS⟩ := hcut
  have KV := Ho.mk (KV.out.bel HB.out)
  have KP := Ho.mk (KP.out.bel HB.out)
  have F1 := Ho.mk (F1.out.bel HB.out)
  have F2 := Ho.mk (F2.out.bel HB.out)
  have G6 := Ho.mk (G5.out.tb HB.out)
  clear y2 TB HB G5
  obtain ⟨wo, rfl⟩ : ∃ wo : World, wo = wc := ⟨_, rfl⟩
  have FCl := FC.out.lt
  have FSl := FS.out.lt
  have KWl := KW.out.lt
  have KPl := KP.out.lt
  have KVl := KV.out.lt
  have lwo := G6.out.size
  have LL := Ho.mk (And.intro LW.out (And.intro LC.out (And.intro LS.out (And.intro FCl (And.intro FSl (And.intro KWl (And.intro KPl (And.intro KVl lwo))))))))
  have LB := Ho.mk (And.intro l1 (And.intro lb lb'))
  clear LW LC LS FCl FSl KWl KPl KVl lwo l1 lb lb' l4 l5
  go_wp2_with fail
  go_loopw [6] (fun v wr => ∃ (q bq : Nat) (z : Int), q ≤ p ∧ v = .pointer (some ⟨bq, 0, none⟩) ∧ Ho (z = q + 1) ∧ Ho (wo.heap.size ≤ bq) ∧ Ho (Blk wr bq 3 [.int .i64 z]) ∧ Ho (Fz wr b (stageS p (tabW p) (swapG opsN (bitsG p) X, swapG opsN (bitsG p) Y) q).1) ∧ Ho (Fz wr b' (stageS p (tabW p) (swapG opsN (bitsG p) X, swapG opsN (bitsG p) Y) q).2) ∧ Ho (Gr2 b b' wo wr)) (fun v w => p + 2 - qOf v w)
  case atStart =>
   have a1 := (Bel.refl wo).alloc (.cells #[.int .i64 1] 3)
   exact ⟨0, wo.heap.size, 1, Nat.zero_le _, rfl, ⟨by simp⟩, ⟨Nat.le_refl _⟩, ⟨Blk.new wo [.int .i64 1] 3⟩, ⟨F1.out.bel a1⟩, ⟨F2.out.bel a1⟩, ⟨gr2_bel a1 b b'⟩⟩
  case round =>
   obtain ⟨wq, rfl⟩ : ∃ wq : World, wq = wr := ⟨_, rfl⟩
   obtain ⟨q, bq, z, hq, rfl, HZ, HQ, KQ, FX, FY, HG⟩ := hrel
   have KP1 := Ho.mk (HG.out.blk KP.out (by have := LB.out; omega) (by have := LB.out; omega))
   have y2 := KP1.out.cell (i := 0) rfl
   have y3 := KQ.out.cell (i := 0) rfl
   rcases Nat.lt_or_ge q p with hlt | hge
   ·have hzp : z ≤ (p : Int) := by have := HZ.out; omega
    have hz1 : 1 ≤ z := by have := HZ.out; omega
    have KV1 := Ho.mk (HG.out.blk KV.out (by have := LB.out; omega) (by have := LB.out; omega))
    obtain ⟨st, hst⟩ : ∃ st, st = stageS p (tabW p) (swapG opsN (bitsG p) X, swapG opsN (bitsG p) Y) q := ⟨_, rfl⟩
    have HST := Ho.mk hst
    rw [← hst] at FX FY
    have hl := stageS_len (p := p) (tabW p) (st := (swapG opsN (bitsG p) X, swapG opsN (bitsG p) Y)) (by rw [swapG_len, HX.out, HN.out]) (by rw [swapG_len, HY.out, HN.out]) (k := q) (by omega)
    rw [← hst, ← HN.out] at hl
    have HSL := Ho.mk hl
    clear hst hl
    obtain ⟨half, hhalf⟩ : ∃ half, half = 2 ^ q := ⟨_, rfl⟩
    obtain ⟨many, hmany⟩ : ∃ many, many = 2 ^ (p - (q + 1)) := ⟨_, rfl⟩
    have hmN : many * (2 * half) = N := by rw [hmany, hhalf, HN.out]; exact pow_split hlt
    have hh0 : 0 < half := by rw [hhalf]; exact Nat.two_pow_pos q
    have HH := Ho.mk (And.intro hhalf hmany)
    have HMN := Ho.mk hmN
    clear hhalf hmany hmN
    have h2z : (2 : Int) ^ z.toNat = ((2 * half : Nat) : Int) := by
     rw [HH.out.1, show z.toNat = q + 1 by have := HZ.out; omega, Int.pow_succ]; push_cast; omega
    have hhN : 2 * half ≤ N := by
     have h1 : 0 < many := by rw [HH.out.2]; exact Nat.two_pow_pos _
     have := HMN.out
     have h2 : 1 * (2 * half) ≤ many * (2 * half) := Nat.mul_le_mul_right _ h1
     omega
    obtain ⟨H2, hH2⟩ : ∃ H2 : Nat, H2 = 2 * half := ⟨_, rfl⟩
    rw [← hH2] at h2z
    have HH2 := Ho.mk hH2
    clear hH2
    have hw1 : IntKind.i64.wrap ((2 : Int) ^ z.toNat) = (H2 : Int) := by rw [h2z, IntKind.wrap_i64]; have := HH2.out; omega
    have hw2 : wrap64 ((2 : Int) ^ z.toNat) = (H2 : Int) := by rw [h2z]; unfold wrap64; have := HH2.out; omega
    clear h2z
    go_wp2_with fail
    go_loopw [8] (fun v wr => ∃ (j F : Nat), j ≤ many ∧ v = .int .i64 (F : Int) ∧ Ho (F = j * (2 * half)) ∧ Ho (Fz wr b (mergesS half (fun k => tabW p (k * 2 ^ (p - (q + 1)))) st j).1) ∧ Ho (Fz wr b' (mergesS half (fun k => tabW p (k * 2 ^ (p - (q + 1)))) st j).2) ∧ Ho (Gr2 b b' wq wr)) (fun v _ => N - (intOf v).toNat)
    case atStart => exact ⟨0, 0, Nat.zero_le _, rfl, ⟨by simp⟩, FX, FY, ⟨Gr2.refl _ _ _⟩⟩
    case round =>
     obtain ⟨j, F, hj, rfl, HF, GX, GY, H1⟩ := hrel
     have lB := LB.out
     have lq := HQ.out
     have lLL := LL.out
     have KV2 := Ho.mk (H1.out.blk KV1.out (by omega) (by omega))
     have KQ2 := Ho.mk (H1.out.blk KQ.out (by omega) (by omega))
     have KP2 := Ho.mk (H1.out.blk KP1.out (by omega) (by omega))
     obtain ⟨v0, v1⟩ := KV2.out.c2
     have q0 := KQ2.out.cell (i := 0) rfl
     have ML := Ho.mk (mergesS_len (half := half) (tw := fun k => tabW p (k * 2 ^ (p - (q + 1)))) (st := st) j)
     rcases Nat.lt_or_ge j many with jlt | jge
     ·have hFN : F + H2 ≤ N := by
       have h1 : (j + 1) * (2 * half) ≤ many * (2 * half) := Nat.mul_le_mul_right _ jlt
       have := HMN.out
       have := HF.out
       have := HH2.out
       rw [Nat.succ_mul] at h1; omega
      have hH20 : 0 < H2 := by have := HH2.out; omega
      obtain ⟨E, hE⟩ : ∃ E : Nat, E = F + H2 := ⟨_, rfl⟩
      have hEN : E ≤ N := by omega
      have hFE : F < E := by omega
      have hwE : IntKind.i64.wrap ((F : Int) + (H2 : Int)) = (E : Int) := by rw [hE, IntKind.wrap_i64]; omega
      have HE := Ho.mk hE
      have PT := Ho.mk (fun w => dPart (b := b) (b' := b') (o := 0) (n := N) (m := N) (f := F) (t := E) (c := c) (c' := c') w hFE (by omega) (by omega) hc hc' hC hC')
      have MG := Ho.mk (fun w (g : Bel wr w) => dMerge (half := half) (f := F) (c := c - F) (c' := c' - F) (b := b) (b' := b') (bw := bW) (bp := bp) (bq := bq) (N := N) (tw := fun k => tabW p (k * 2 ^ (p - (q + 1)))) w (GX.out.bel g) (GY.out.bel g) hb (by rw [ML.out.1]; exact HSL.out.1) (by rw [ML.out.2]; exact HSL.out.2)
       (by have := HH2.out; omega) hh0 (by omega) (by have := HH2.out; omega) (by have := HH2.out; omega) (by omega) (by omega)
       (fun k k0 kh w' gw => by
        have gg : Gr2 b b' wq w' := (H1.out.tb g).trans gw
        have gh : Gr2 b b' wo w' := HG.out.trans gg
        have hi : k * 2 ^ (p - (q + 1)) < N / 2 := by
         have h1 : k * 2 ^ (p - (q + 1)) < half * 2 ^ (p - (q + 1)) := Nat.mul_lt_mul_of_pos_right kh (Nat.two_pow_pos _)
         have h2 : many * (2 * half) = 2 * (half * 2 ^ (p - (q + 1))) := by rw [HH.out.2, Nat.mul_comm (2 ^ (p - (q + 1))), Nat.mul_assoc]
         have := HMN.out
         omega
        have hz : ((q + 1 : Nat) : Int) = z := by have := HZ.out; omega
        have h := dAt (k := k) (p := p) (q := q + 1) (m := N / 2) (bw := bW) (bp := bp) (bq := bq) w' (gh.blk KW.out (by omega) (by omega)) (gh.blk KP.out (by omega) (by omega)) (by rw [hz]; exact gg.blk KQ.out (by omega) (by omega))
         (gh.fk FC.out (by omega) (by omega)) (gh.fk FS.out (by omega) (by omega)) (by omega) hlt (by have := HH2.out; omega) hi (by simp) (by simp) (by omega)
        rw [nth_range _ hi, nth_range _ hi] at h
        exact h))
      have h2h : 2 * half = E - F := by have := HH2.out; omega
      rw [h2h] at MG
      simp only [Nat.zero_add] at PT
      clear hE h2h lB lq lLL
      go_upto_region 15 with fail
      refine wp_region_held_drew (S := fun w' => Blk w' W0.heap.size 46 [.slice (some ⟨b, 0, none⟩) N c, .slice (some ⟨b', 0, none⟩) N c'] ∧ Blk w' bq 3 [.int .i64 z]) (by kernel_rfl) ⟨KV2.out.bel (Bel.refl _).drew, KQ2.out.bel (Bel.refl _).drew⟩ (fun hHeld => ?_)
      (try dsimp only at hHeld)
      refine rl (i := 0) (v := ?_) hHeld (fun w hSw => ?_) ?_
      rotate_left
      ·(have z0 := hSw.1.cell (i := 0) rfl; have z1 := hSw.1.cell (i := 1) rfl; have z2 := hSw.2.cell (i := 0) rfl; go_simp; try (with_reducible rfl))
      refine rt (i := 1) hHeld ?_
      refine rt (i := 2) hHeld ?_
      refine rl (i := 3) (v := ?_) hHeld (fun w hSw => ?_) ?_
      rotate_left
      ·(have z0 := hSw.1.cell (i := 0) rfl; have z1 := hSw.1.cell (i := 1) rfl; have z2 := hSw.2.cell (i := 0) rfl; go_simp; try (with_reducible rfl))
      refine rt (i := 4) hHeld ?_
      refine rt (i := 5) hHeld ?_
      refine rt (i := 7) hHeld ?_
      try simp only [Act.put, Ow.zS, Ow.zC, Ow.zD]
      refine rc (i := 6) (fun K hK => ?_)
      go_simp
      go_at_call 114
      (with_reducible refine (PT.out _).mono ?_); rintro e w8 ⟨rfl, b8⟩
      try go_wp2_with fail
      refine hK.out _ _ ⟨hHeld.1.bel b8, hHeld.2.bel b8⟩ (fun hHeld => ?_)
      clear hK K
      try simp only [Act.put, Ow.zS, Ow.zC, Ow.zD]
      refine rc (i := 8) (fun K hK => ?_)
      go_simp
      go_at_call 113
      (with_reducible refine (MG.out _ ((Bel.refl _).drew.trans b8)).mono ?_); rintro e w9 ⟨rfl, x9, y9, g9⟩
      try go_wp2_with fail
      have GX9 := Ho.mk x9
      have GY9 := Ho.mk y9
      have gG := (gr2_bel ((Bel.refl wr).drew.trans b8) b b').trans g9
      clear x9 y9
      refine hK.out _ _ ⟨g9.blk hHeld.1 (by have := LB.out; omega) (by have := LB.out; omega), g9.blk hHeld.2 (by have := LB.out; have := HQ.out; have := LL.out; omega) (by have := LB.out; have := HQ.out; have := LL.out; omega)⟩ (fun hHeld => ?_)
      clear hK K
      try simp only [Act.put, Ow.zS, Ow.zC, Ow.zD]
      refine wpAnyH_done (by kernel_rfl) ?_ _
      clear hHeld
      have q0 := (gG.blk KQ2.out (by have := LB.out; have := HQ.out; have := LL.out; omega) (by have := LB.out; have := HQ.out; have := LL.out; omega)).cell (i := 0) rfl
      have GG := Ho.mk ((gr2_bel ((Bel.refl wr).drew.trans b8) b b').trans g9)
      clear g9 b8
      go_wp2
      go_roundw
      case rel =>
       refine ⟨j + 1, F + H2, by omega, by rw [HE.out], ⟨?_⟩, ⟨?_⟩, ⟨?_⟩, ⟨H1.out.trans GG.out⟩⟩
       ·have := HF.out; have := HH2.out; rw [Nat.succ_mul]; omega
       ·rw [mergesS_succ, ← HF.out]; exact GX9.out
       ·rw [mergesS_succ, ← HF.out]; exact GY9.out
      case measure => simp [intOf]; omega
     ·obtain rfl : j = many := by omega
      have e9 : stageS p (tabW p) (swapG opsN (bitsG p) X, swapG opsN (bitsG p) Y) (q + 1) = mergesS half (fun k => tabW p (k * 2 ^ (p - (q + 1)))) st j := by
       rw [stageS_succ, ← HST.out, ← HH.out.1, ← HH.out.2]; rfl
      have HE9 := Ho.mk e9
      have hFN : ¬ F < N := by have := HF.out; have := HMN.out; omega
      have GZ := Ho.mk (HG.out.trans H1.out)
      have lz := GZ.out.size
      clear e9 KV1 KP1
      go_wp2_with fail
      go_roundw
      case rel =>
       have aa := (Bel.refl wr).alloc (.cells #[.int .i64 (z + 1)] 3)
       exact ⟨q + 1, wr.heap.size, z + 1, by omega, rfl, ⟨by have := HZ.out; omega⟩, ⟨lz⟩, ⟨Blk.new wr [.int .i64 (z + 1)] 3⟩, ⟨by rw [HE9.out]; exact GX.out.bel aa⟩, ⟨by rw [HE9.out]; exact GY.out.bel aa⟩, ⟨GZ.out.tb aa⟩⟩
      case measure =>
       rw [qOf_blk (Blk.new wr [.int .i64 (z + 1)] 3), qOf_blk KQ.out]
       have := HZ.out
       omega
   ·obtain rfl : q = p := by omega
    have hzp : (q : Int) < z := by have := HZ.out; omega
    go_wp2
    go_ret
    exact ⟨rfl, FX.out, FY.out, G6.out.trans HG.out⟩
end P8
namespace Pa
open Ieee Go Go.RowKit Go.Proofs Go.Proofs.YtalbgklfhabnkaaGreatDoor Ow Dt Gp W0 S4 P0 M0 M1 M3 W4 W5 W1 W2
attribute [local go_sem ↓] Go.wp_at_zero Go.wp_at_succ
def upMap (g : Nat → Nat) (X : List Nat) (i : Nat) : List Nat := (X.take i).map g ++ X.drop i
theorem upMap_len (g : Nat → Nat) (X : List Nat) {i : Nat} (h : i ≤ X.length) : (upMap g X i).length = X.length := by simp [upMap]; omega
theorem upMap_all (g : Nat → Nat) (X : List Nat) : upMap g X X.length = X.map g := by simp [upMap]
theorem upMap_zero (g : Nat → Nat) (X : List Nat) : upMap g X 0 = X := by simp [upMap]
theorem upMap_at (g : Nat → Nat) (X : List Nat) {i : Nat} (h : i < X.length) : nthN (upMap g X i) i = nthN X i := by
 simp [upMap, nthN, List.getD_eq_getElem?_getD, List.getElem?_append, Nat.min_eq_left (Nat.le_of_lt h)]
theorem upMap_set (g : Nat → Nat) (X : List Nat) {i : Nat} (h : i < X.length) : (upMap g X i).set i (g (nthN X i)) = upMap g X (i + 1) := by
 apply List.ext_getElem (by simp [upMap]; omega)
 intro j h1 h2
 rw [List.getElem_set]
 have hx : nthN X i = X[i] := nthN_lt h
 by_cases e : i = j
 ·subst e
  simp [upMap, List.getElem_append, hx]; omega
 ·simp only [if_neg e, upMap, List.getElem_append, List.length_map, List.length_take, List.getElem_map, List.getElem_take, List.getElem_drop]
  by_cases q : j < i
  ·rw [dif_pos (by omega), dif_pos (by omega)]
  ·rw [dif_neg (by omega), dif_neg (by omega)]
   congr 1; omega
theorem dOpp {r : Nat} (w : World) (hr : r < 2 * sgnW) : Calls Tryz.prog 79 #[.float .f64 r] w (TellsC w (fng (cn r))) := by
 have HR := Ho.mk hr
 clear hr
 go_enter Tryz.func79, Tryz.ntmps79
 go_wp2
 go_ret
 exact ⟨_, rfl, fng_lt' HR.out, neg_cn HR.out, Bel.refl _⟩
theorem dShare {r s : Nat} (w : World) (hr : r < 2 * sgnW) (hs : s < 2 * sgnW) : Calls Tryz.prog 82 #[.float .f64 s, .float .f64 r] w (TellsC w (fmul (cn r) (cn s))) := by
 have M := Ho.mk (fun w => dOMul w hr hs)
 clear hr hs
 go_enter Tryz.func82, Tryz.ntmps82
 go_wp2_with (go_at_call 85; (with_reducible refine (M.out _).mono ?_); rintro e w1 ⟨r1, rfl, l1, c1, b1⟩)
 go_ret
 exact ⟨r1, rfl, l1, c1, b1⟩
theorem dEachO {b n c : Nat} {X : List Nat} (W0 : World) (KX : Fz W0 b X) (hX : X.length = n) (hm : n ≤ 100000) :
  Calls Tryz.prog 78 #[.slice (some ⟨b, 0, none⟩) n c, .func (.func 79) #[] #[]] W0
   fun e w' => e = .returned (.tuple #[]) ∧ Fz w' b (X.map (fng)) ∧ Gr b W0 w' := by
 subst hX
 have K1 := Ho.mk KX
 have OP := Ho.mk (fun (w : World) (r : Nat) (h : r < 2 * sgnW) => dOpp w h)
 clear KX
 go_enter Tryz.func78, Tryz.ntmps78
 go_wp2_with fail
 go_loopw [8] (fun v wr => ∃ (i : Nat), i ≤ X.length ∧ v = .int .i64 i ∧ Ho (Fz wr b (upMap (fng) X i)) ∧ Ho (Gr b W0 wr)) (fun v _ => X.length - (intOf v).toNat)
 case atStart => exact ⟨0, Nat.zero_le _, rfl, ⟨by rw [upMap_zero]; exact K1.out⟩, ⟨Gr.refl _ _⟩⟩
 case round =>
  obtain ⟨i, hi, rfl, FK, HW⟩ := hrel
  rcases Nat.lt_or_ge i X.length with hlt | hge
  ·obtain ⟨r, y0, rl, rc⟩ := FK.out.at_ (i := i) (by rw [upMap_len _ _ hi]; exact hlt)
   rw [upMap_at _ _ hlt] at rc
   have HR := Ho.mk (And.intro rl rc)
   clear rl rc
   go_wp2_with (first | (go_at_call 79; (with_reducible refine (OP.out _ _ HR.out.1).mono ?_); rintro e w1 ⟨r1, rfl, l1, c1, b1⟩; have FB := Ho.mk (FK.out.bel b1); have HW1 := Ho.mk (HW.out.trans (b1.gr b)); have HC := Ho.mk (And.intro l1 c1); obtain ⟨_, y1, _, _⟩ := FB.out.at_ (i := i) (by rw [upMap_len _ _ hi]; exact hlt); have z1 := FB.out.free i; clear l1 c1 b1) | fail)
   go_roundw
   case rel =>
    refine ⟨i + 1, by omega, by simp, ⟨?_⟩, ⟨HW1.out.set i _⟩⟩
    have := FB.out.set i HC.out.1 HC.out.2
    rw [HR.out.2, upMap_set (fng) X hlt] at this
    exact this
   case measure => simp [intOf]; omega
  ·obtain rfl : i = X.length := by omega
   rw [upMap_all] at FK
   go_wp2
   go_end0
   exact ⟨rfl, FK.out, HW.out⟩
theorem dEachS {b n c s : Nat} {X : List Nat} (W0 : World) (KX : Fz W0 b X) (hX : X.length = n) (hm : n ≤ 100000) (hs : s < 2 * sgnW) :
  Calls Tryz.prog 78 #[.slice (some ⟨b, 0, none⟩) n c, .func (.func 82) #[.float .f64 s] #[]] W0
   fun e w' => e = .returned (.tuple #[]) ∧ Fz w' b (X.map (fun x => fmul x (cn s))) ∧ Gr b W0 w' := by
 subst hX
 have K1 := Ho.mk KX
 have OP := Ho.mk (fun (w : World) (r : Nat) (h : r < 2 * sgnW) => dShare w h hs)
 clear KX
 go_enter Tryz.func78, Tryz.ntmps78
 go_wp2_with fail
 go_loopw [8] (fun v wr => ∃ (i : Nat), i ≤ X.length ∧ v = .int .i64 i ∧ Ho (Fz wr b (upMap (fun x => fmul x (cn s)) X i)) ∧ Ho (Gr b W0 wr)) (fun v _ => X.length - (intOf v).toNat)
 case atStart => exact ⟨0, Nat.zero_le _, rfl, ⟨by rw [upMap_zero]; exact K1.out⟩, ⟨Gr.refl _ _⟩⟩
 case round =>
  obtain ⟨i, hi, rfl, FK, HW⟩ := hrel
  rcases Nat.lt_or_ge i X.length with hlt | hge
  ·obtain ⟨r, y0, rl, rc⟩ := FK.out.at_ (i := i) (by rw [upMap_len _ _ hi]; exact hlt)
   rw [upMap_at _ _ hlt] at rc
   have HR := Ho.mk (And.intro rl rc)
   clear rl rc
   go_wp2_with (first | (go_at_call 82; (with_reducible refine (OP.out _ _ HR.out.1).mono ?_); rintro e w1 ⟨r1, rfl, l1, c1, b1⟩; have FB := Ho.mk (FK.out.bel b1); have HW1 := Ho.mk (HW.out.trans (b1.gr b)); have HC := Ho.mk (And.intro l1 c1); obtain ⟨_, y1, _, _⟩ := FB.out.at_ (i := i) (by rw [upMap_len _ _ hi]; exact hlt); have z1 := FB.out.free i; clear l1 c1 b1) | fail)
   go_roundw
   case rel =>
    refine ⟨i + 1, by omega, by simp, ⟨?_⟩, ⟨HW1.out.set i _⟩⟩
    have := FB.out.set i HC.out.1 HC.out.2
    rw [HR.out.2, upMap_set (fun x => fmul x (cn s)) X hlt] at this
    exact this
   case measure => simp [intOf]; omega
  ·obtain rfl : i = X.length := by omega
   rw [upMap_all] at FK
   go_wp2
   go_end0
   exact ⟨rfl, FK.out, HW.out⟩
end Pa
namespace Pb
open Ieee Go Go.RowKit Go.Extern.Stop Go.Stop Go.Extern Go.Proofs Go.Proofs.YtalbgklfhabnkaaGreatDoor Ow Dt
attribute [local go_sem ↓] Go.wp_at_zero Go.wp_at_succ
theorem neErr (w : World) : (binOp .eql 81 .nilIface (.iface 26 (.int .i64 2))).run Tryz.prog w = .ok (.bool false) w := by kernel_rfl
theorem isNil (w : World) : Calls Tryz.prog 81 #[.nilIface, .iface 26 (.int .i64 2)] w fun e w' => e = .returned (.bool false) ∧ w' = w := by
 have hn := neErr w
 have hn2 := run_eql_iface_nil_left (P := Tryz.prog) w 26 (.int .i64 2) Tryz.underlying81
 go_enter Tryz.func81, Tryz.ntmps81
 go_wp2
 go_ret
 exact ⟨rfl, rfl⟩
end Pb
namespace Pc
open Ieee Go Go.RowKit Go.Proofs Go.Proofs.YtalbgklfhabnkaaGreatDoor Ow Dt Gp U0 W0 S4 S6 P0 M0 M1 M2 M3 P4 P5 P6 P8 Pa Pb W4 W5 W1 W2
attribute [local go_sem ↓] Go.wp_at_zero Go.wp_at_succ
def intoN (p : Nat) (st : List Nat × List Nat) : List Nat × List Nat := intoG opsN (bitsG p) p (tabW p) st
def invN (p : Nat) (st : List Nat × List Nat) : List Nat × List Nat :=
 let r := intoN p (st.1, st.2.map fng)
 (r.1.map fun x => fmul x (P2 (1023 - p)), (r.2.map fun x => fmul x (P2 (1023 - p))).map fng)
theorem intoN_len {p : Nat} {st : List Nat × List Nat} (h1 : st.1.length = 2 ^ p) (h2 : st.2.length = 2 ^ p) : (intoN p st).1.length = 2 ^ p ∧ (intoN p st).2.length = 2 ^ p := by
 refine stages_len opsN (fun q k => tabW p (k * 2 ^ (p - (q + 1)))) (st := (swapG opsN (bitsG p) st.1, swapG opsN (bitsG p) st.2)) ?_ ?_ (Nat.le_refl p)
 ·rw [swapG_len]; exact h1
 ·rw [swapG_len]; exact h2
theorem conv_ok : ∀ p : Fin 8, floatOfInt .f64 ((2 ^ p.val : Nat) : Int) = P2 (1023 + p.val) ∧ floatBits .quo .f64 4607182418800017408 (P2 (1023 + p.val)) = some (P2 (1023 - p.val)) ∧ P2 (1023 - p.val) < 2 * sgnW ∧ cn (P2 (1023 - p.val)) = P2 (1023 - p.val) := by decide +kernel
theorem dInvInto {p N c c' b b' : Nat} {X Y : List Nat} (W0 : World) (T : Tab W0) (KX : Fz W0 b X) (KY : Fz W0 b' Y) (hb : b ≠ b') (hN : N = 2 ^ p) (hX : X.length = N) (hY : Y.length = N) (hp7 : p ≤ 7) (hc : N ≤ c) (hc' : N ≤ c') (hC : c ≤ 9223372036854775807) (hC' : c' ≤ 9223372036854775807) :
  Calls Tryz.prog 45 #[.agg #[.slice (some ⟨b, 0, none⟩) N c, .slice (some ⟨b', 0, none⟩) N c']] W0
   fun e w' => e = .returned (.int .i64 0) ∧ Fz w' b (invN p (X, Y)).1 ∧ Fz w' b' (invN p (X, Y)).2 ∧ Gr2 b b' W0 w' := by
 have hpos : 0 < N := by rw [hN]; exact Nat.two_pow_pos p
 have h128 : N ≤ 128 := by rw [hN]; exact Nat.le_trans (Nat.pow_le_pow_right (by decide) hp7) (by decide)
 have b2 := tab_ne T KX (by omega)
 have b2' := tab_ne T KY (by omega)
 obtain ⟨cv1, cv2, cv3, cv4⟩ := conv_ok ⟨p, by omega⟩
 dsimp only at cv1 cv2 cv3 cv4
 rw [← hN] at cv1
 have CV3 := Ho.mk cv3
 have CV4 := Ho.mk cv4
 have hq := fun (t : TypeId) (w : World) => run_float_arith (P := Tryz.prog) w .quo t .f64 _ _ _ cv2
 have lb := KX.lt
 have lb' := KY.lt
 have T0 := Ho.mk T
 have F1 := Ho.mk KX
 have F2 := Ho.mk KY
 have HN := Ho.mk hN
 have HX := Ho.mk hX
 have HY := Ho.mk hY
 have KV0 := Ho.mk (Blk.new W0 [.slice (some ⟨b, 0, none⟩) N c, .slice (some ⟨b', 0, none⟩) N c'] 46)
 have g0 := Ho.mk ((Bel.refl W0).alloc (.cells #[.slice (some ⟨b, 0, none⟩) N c, .slice (some ⟨b', 0, none⟩) N c'] 46))
 clear T KX KY hN hX hY cv2 cv3 cv4
 go_enter Tryz.func45, Tryz.ntmps45
 go_upto_region 1 with fail
 have F1 := Ho.mk (F1.out.bel g0.out)
 have F2 := Ho.mk (F2.out.bel g0.out)
 have T1 := Ho.mk (T0.out.bel g0.out)
 have G0 := Ho.mk (gr2_bel g0.out b b')
 generalize W0.alloc (.cells #[.slice (some ⟨b, 0, none⟩) N c, .slice (some ⟨b', 0, none⟩) N c'] 46) = W at *
 have y1 := KV0.out.cell (i := 1) rfl
 have E1 := Ho.mk (dEachO (n := N) (c := c') W F2.out HY.out (by omega))
 go_wp2_with fail
 (with_reducible refine E1.out.mono ?_); rintro e w1 ⟨rfl, f1, G1⟩
 have F2 := Ho.mk f1
 have F1 := Ho.mk (gr_fz G1 F1.out hb)
 have GX := Ho.mk (Gr2.of2 (b := b) G1)
 have G0 := Ho.mk (G0.out.trans GX.out)
 have T1 := Ho.mk (GX.out.tab T1.out b2 b2')
 clear f1 G1 E1 y1 g0
 have KV := Ho.mk (GX.out.blk KV0.out (by omega) (by omega))
 obtain ⟨y0, y1⟩ := KV.out.c2
 have IN := Ho.mk (dInto (p := p) (N := N) (c := c) (c' := c') w1 T1.out F1.out F2.out hb HN.out HX.out (by rw [List.length_map]; exact HY.out) hp7 hc hc' hC hC')
 go_wp2_with fail
 (with_reducible refine IN.out.mono ?_); rintro e w2 ⟨rfl, f1, f2, G2⟩
 have LN := Ho.mk (intoN_len (p := p) (st := (X, Y.map fng)) (by rw [← HN.out]; exact HX.out) (by rw [← HN.out, List.length_map]; exact HY.out))
 have F1 : Ho (Fz w2 b (intoN p (X, Y.map fng)).1) := ⟨f1⟩
 have F2 : Ho (Fz w2 b' (intoN p (X, Y.map fng)).2) := ⟨f2⟩
 have G0 := Ho.mk (G0.out.trans G2)
 have GX := Ho.mk (GX.out.trans G2)
 obtain ⟨st, hst⟩ : ∃ st, st = intoN p (X, Y.map fng) := ⟨_, rfl⟩
 rw [← hst] at F1 F2 LN
 have HST := Ho.mk hst
 rw [← HN.out] at LN
 clear f1 f2 G2 IN hst y0 y1
 have KV := Ho.mk (GX.out.blk KV0.out (by omega) (by omega))
 obtain ⟨y0, y1⟩ := KV.out.c2
 go_wp2_with (go_at_call 81; (with_reducible refine (isNil _).mono ?_); rintro e w3 ⟨rfl, rfl⟩)
 have S1 := Ho.mk (dEachS (n := N) (c := c) w3 F1.out LN.out.1 (by omega) CV3.out)
 (with_reducible refine S1.out.mono ?_); rintro e w4 ⟨rfl, f1, G1⟩
 rw [CV4.out] at f1
 have F1 := Ho.mk f1
 have F2 := Ho.mk (gr_fz G1 F2.out (Ne.symm hb))
 have GX := Ho.mk (GX.out.trans (Gr2.of1 G1))
 have G0 := Ho.mk (G0.out.trans (Gr2.of1 G1))
 clear f1 G1 S1 y0 y1
 have KV := Ho.mk (GX.out.blk KV0.out (by omega) (by omega))
 obtain ⟨y0, y1⟩ := KV.out.c2
 have S2 := Ho.mk (dEachS (n := N) (c := c') w4 F2.out LN.out.2 (by omega) CV3.out)
 go_wp2_with fail
 (with_reducible refine S2.out.mono ?_); rintro e w5 ⟨rfl, f2, G1⟩
 rw [CV4.out] at f2
 have F2 := Ho.mk f2
 have F1 := Ho.mk (gr_fz G1 F1.out hb)
 have GX := Ho.mk (GX.out.trans (Gr2.of2 G1))
 have G0 := Ho.mk (G0.out.trans (Gr2.of2 G1))
 clear f2 G1 S2 y0 y1
 have KV := Ho.mk (GX.out.blk KV0.out (by omega) (by omega))
 obtain ⟨y0, y1⟩ := KV.out.c2
 have S3 := Ho.mk (dEachO (n := N) (c := c') w5 F2.out (by rw [List.length_map]; exact LN.out.2) (by omega))
 go_wp2_with fail
 (with_reducible refine S3.out.mono ?_); rintro e w6 ⟨rfl, f2, G1⟩
 have F2 := Ho.mk f2
 have F1 := Ho.mk (gr_fz G1 F1.out hb)
 have G0 := Ho.mk (G0.out.trans (Gr2.of2 G1))
 clear f2 G1 S3 y0 y1
 go_wp2
 go_ret
 refine ⟨rfl, ?_, ?_, G0.out⟩
 ·unfold invN; rw [← HST.out]; exact F1.out
 ·unfold invN; rw [← HST.out]; exact F2.out
end Pc
namespace Pe
open Ieee Go Go.RowKit Go.Proofs Go.Proofs.YtalbgklfhabnkaaGreatDoor Ow Dt Gp G9 U0 W0 S4 S6 P0 M0 M1 M2 M3 P4 P5 P6 P8 Pa Pb W4 W5 W1 W2 Pc
attribute [local go_sem ↓] Go.wp_at_zero Go.wp_at_succ
def Cl (X : List Nat) : Prop := ∀ x ∈ X, x < 2 * sgnW ∧ cn x = x
theorem Fz.cl {w : World} {b : Nat} {X : List Nat} (h : Fz w b X) : Cl X := fun x hx => by
 obtain ⟨i, hi, rfl⟩ := List.getElem_of_mem hx
 obtain ⟨r, _, h1, h2⟩ := h.at_ hi
 rw [nthN_lt hi] at h2
 rw [← h2]; exact ⟨cn_lt h1, cn_idem r⟩
theorem Fr.cl {w : World} {A : Option Addr} {X : List Nat} (h : Fr w A X) : Cl X := fun x hx => by
 obtain ⟨i, hi, rfl⟩ := List.getElem_of_mem hx
 obtain ⟨ad, r, _, _, h1, h2⟩ := h.at_ hi
 rw [nthN_lt hi] at h2
 rw [← h2]; exact ⟨cn_lt h1, cn_idem r⟩
end Pe
namespace Pg
open Ieee Go Go.RowKit Go.Proofs Go.Proofs.YtalbgklfhabnkaaGreatDoor Ow Dt Gp I0 U0 W0 S4 S6 P0 M0 M1 M2 M3 P4 P5 P6 P8 Pa Pb W4 W5 W1 W2 Pc Pe
attribute [local go_sem ↓] Go.wp_at_zero Go.wp_at_succ
structure In (w : World) (v : Value) (X : List Nat) : Prop where
 out : ∃ A c, v = .slice A X.length c ∧ X.length ≤ c ∧ c ≤ 9223372036854775807 ∧ Fr w A X ∧ (A = none → X.length = 0)
theorem In.bel {w w' : World} {v : Value} {X : List Nat} (h : In w v X) (g : Bel w w') : In w' v X := by
 obtain ⟨A, c, h1, h2, h3, h4, h5⟩ := h.out
 exact ⟨A, c, h1, h2, h3, h4.bel g, h5⟩
theorem RowF.inn {w : World} {B : Nat} {v : Value} {X : List Nat} (h : RowF w B v X) (hm : X.length ≤ 35184372088831) : In w v X := by
 obtain ⟨A, c, h1, h2, h3, h4⟩ := h.out
 refine ⟨A, c, h1, h2, h3, ?_, fun e => ?_⟩
 ·rcases h4 with h4 | ⟨b, rfl, f, l⟩
  ·obtain rfl := List.length_eq_zero_iff.1 h4; exact Fr.nil _ _
  ·exact f.fr hm
 ·rcases h4 with h4 | ⟨b, rfl, f, l⟩
  ·exact h4
  ·cases e
theorem In.cl {w : World} {v : Value} {X : List Nat} (h : In w v X) : Cl X := by
 obtain ⟨A, c, h1, h2, h3, h4, h5⟩ := h.out
 exact Fr.cl h4
end Pg
namespace Y3
open Ieee Go Go.RowKit Go.Proofs Go.Proofs.YtalbgklfhabnkaaGreatDoor Ow Dt Gp I0 W0 S4 M0 M1 M3 W4 W5 V2
open Go.Proofs.YtalbgklfhabnkaaGreatDoor.V1 (NI St ni_same ni_loop St.refl St.of_bel blk_keep ni_blk put_st)
open Go.Proofs.YtalbgklfhabnkaaGreatDoor.J2 (Oz NP run_app)
open Go.Proofs.YtalbgklfhabnkaaGreatDoor.C6 (leaveAny)
open Go.Proofs.YtalbgklfhabnkaaGreatDoor.Pg (In)
attribute [local go_sem ↓] Go.wp_at_zero Go.wp_at_succ
attribute [local go_sem] Oper.semAt_some
structure Og (w : World) (v : Value) (Z : List Nat) : Prop where
 out : ∃ cs, Oz w 22 1 v Z.length cs ∧ ∀ j u, cs[j]? = some u → Fc u (nthN Z j)
theorem Og.nil (w : World) : Og w (.slice none 0 0) [] := ⟨[], Oz.nil _ _ _, fun j u h => by simp at h⟩
theorem Og.keep {w w' : World} {v : Value} {Z : List Nat} (h : Og w v Z) (k : ∀ g, v.ownBlock = some g → w'.heap[g]? = w.heap[g]?) : Og w' v Z := by
 obtain ⟨cs, h1, h2⟩ := h.out; exact ⟨cs, h1.keep k, h2⟩
theorem Og.lt {w : World} {v : Value} {Z : List Nat} (h : Og w v Z) {g : Nat} (hg : v.ownBlock = some g) : g < w.heap.size := by obtain ⟨cs, h1, _⟩ := h.out; exact h1.lt hg
theorem Og.slice {w : World} {v : Value} {Z : List Nat} (h : Og w v Z) : ∃ A c, v = .slice A Z.length c := by
 obtain ⟨cs, h1, _⟩ := h.out
 rcases h1.row with ⟨e, e2⟩ | ⟨g, cap, cur, e, _⟩
 ·exact ⟨none, 0, by rw [e, e2]⟩
 ·exact ⟨_, _, e⟩
theorem Og.rowF {w : World} {B : Nat} {v : Value} {Z : List Nat} (h : Og w v Z) (hB : ∀ g, v.ownBlock = some g → B ≤ g) : RowF w B v Z := by
 obtain ⟨cs, h1, h2⟩ := h.out
 have hl := h1.len
 rcases h1.row with ⟨rfl, h0⟩ | ⟨g, cap, cur, rfl, hb, k1, k2, k3, k4, _⟩
 ·exact ⟨none, 0, by rw [h0], by omega, by decide, .inl h0⟩
 ·refine ⟨_, cap, rfl, k1, by simp only [maxLen] at k2; omega, .inr ⟨g, rfl, ⟨cur.toList, ⟨by simpa using hb⟩, fun j hj => ?_⟩, hB g rfl⟩⟩
  have hjl : j < cs.length := by omega
  refine ⟨cs[j], ?_, h2 j _ (List.getElem?_eq_getElem hjl)⟩
  have : (cur.toList.take cs.length)[j]? = some cs[j] := by rw [k4]; exact List.getElem?_eq_getElem hjl
  rw [List.getElem?_take, if_pos hjl] at this
  exact this
theorem wp_appF {w : World} {o : Oper} {a : Act} {K : Act → World → Prop} {Q : Exit → Act → World → Prop} (s x : Operand) (ho : o.op = .call { callee := .builtin .append, args := #[s, x], argTypes := #[25, 25] })
  {v : Value} {Z : List Nat} (H : Og w v Z) (hs : a.eval s = v) {g c r : Nat} (hx : a.eval x = .slice (some ⟨g, 0, none⟩) 1 c) (hc : w.cell? ⟨g, 0, none⟩ = some (.float .f64 r)) (hr : r < 2 * sgnW) (hl : Z.length ≤ 100000)
  (h : ∀ v' w', Og w' v' (Z ++ [cn r]) → (w'.os = w.os ∧ w'.tape = w.tape ∧ w'.output = w.output ∧ w.heap.size ≤ w'.heap.size) → (∀ k, k < w.heap.size → w'.heap[k]? = w.heap[k]? ∨ (v.ownBlock = some k ∧ NI w k)) → (v'.ownBlock = v.ownBlock ∨ v'.ownBlock = some w.heap.size) → K (a.put o.dst v') w') :
  o.wp Tryz.prog a w K Q := by
 obtain ⟨cs, h1, h2⟩ := H.out
 obtain ⟨i, hi, hzz⟩ := Option.map_eq_some_iff.1 infoF
 simp only [Prod.mk.injEq] at hzz
 obtain ⟨hz, hsz, hb⟩ := hzz
 obtain ⟨v', w', hr', g1, g2, g3, g4⟩ := run_app (P := Tryz.prog) w 25 o.type 22 i (.float .f64 0) 1 8 Tryz.underlying25 hi hz hsz hb rfl (by decide) (by intro u hu z e; simp [Value.cells] at hu; subst hu; cases e) v Z.length cs h1 ⟨g, 0, none⟩ c [.float .f64 r] rfl
  (fun j u hj => by cases j with
   | zero => simp at hj; subst hj; rw [Addr.add_lit]; exact hc
   | succ j => simp at hj) (fun u hu => by simp at hu; subst hu; rfl) (fun u hu z e => by simp at hu; subst hu; cases e) (by omega) (by omega)
 unfold Oper.wp
 simp [execOp, ho, resolve, invoke, builtin, hs, hx, hr', Result.andThen]
 refine h v' w' ⟨cs ++ [.float .f64 r], by rw [List.length_append]; exact g1, fun j u hj => ?_⟩ g2 g3 g4
 have hcl := h1.len
 rw [List.getElem?_append] at hj
 split at hj
 ·rename_i hlt
  have := h2 j u hj
  rw [nthN_lt (by omega)] at this
  rw [nthN_lt (by rw [List.length_append]; omega), List.getElem_append_left (by omega)]; exact this
 ·rename_i hge
  have h0 : j - cs.length = 0 := by
   rcases hq : j - cs.length with _ | q
   ·rfl
   ·rw [hq] at hj; simp at hj
  rw [h0] at hj
  simp at hj
  subst hj
  have hjz : j = Z.length := by omega
  subst hjz
  refine ⟨r, rfl, hr, ?_⟩
  rw [nthN_lt (by simp)]; simp
theorem Og.far {w : World} {v : Value} {Z : List Nat} (h : Og w v Z) {p : Addr} (hp : v.ownBlock ≠ some p.block) (u : Value) : Og (w.setCell p u) v Z := h.keep fun g hg => Below.heap_setCell _ _ _ _ (fun e => hp (by rw [hg, e]))
theorem Og.bel {w w' : World} {v : Value} {Z : List Nat} (h : Og w v Z) (g : Bel w w') : Og w' v Z := h.keep fun k hk => g.block (h.lt hk)
theorem Og.form {w : World} {v : Value} {Z : List Nat} (h : Og w v Z) (hp : 0 < Z.length) : ∃ g c, v = .slice (some ⟨g, 0, none⟩) Z.length c ∧ Z.length ≤ c := by
 obtain ⟨cs, h1, h2⟩ := h.out
 rcases h1.row with ⟨rfl, h0⟩ | ⟨g, cap, cur, rfl, hb, k1, k2, k3, k4, _⟩
 ·omega
 ·exact ⟨g, cap, rfl, k1⟩
theorem Og.setF {w : World} {g n c : Nat} {Z : List Nat} (h : Og w (.slice (some ⟨g, 0, none⟩) n c) Z) (i : Nat) {r x : Nat} (hr : r < 2 * sgnW) (hx : cn r = x) : Og (w.setCell ⟨g, i, none⟩ (.float .f64 r)) (.slice (some ⟨g, 0, none⟩) n c) (Z.set i x) := by
 obtain ⟨cs, h1, h2⟩ := h.out
 have hl := h1.len
 rcases h1.row with ⟨e, h0⟩ | ⟨g', cap, cur, e, hb, k1, k2, k3, k4, k5⟩
 ·cases e
 ·cases e
  have hnp : NP (cur.toList.set i (.float .f64 r)) := fun x hx z e => by
   rcases List.mem_or_eq_of_mem_set hx with q | q
   ·exact k5 x q z e
   ·subst q; cases e
  refine ⟨cs.set i (.float .f64 r), ⟨by rw [List.length_set, List.length_set]; exact hl, .inr ⟨g, c, (cur.toList.set i (.float .f64 r)).toArray, by rw [List.length_set], ?_, by rw [List.length_set]; exact k1, k2, by simp; omega, ?_, by simpa using hnp⟩⟩, fun j u hj => ?_⟩
  ·have KB : Blk w g 22 cur.toList := ⟨by simpa using hb⟩
   exact (KB.set i (.float .f64 r)).out
  ·rw [List.length_set]
   show List.take cs.length (cur.toList.set i _) = _
   rw [List.take_set, k4]
  ·rw [nthN_set]
   rw [List.getElem?_set] at hj
   by_cases e : i = j
   ·subst e
    by_cases hi : i < cs.length
    ·rw [if_pos rfl, if_pos hi] at hj
     cases hj
     rw [if_pos ⟨rfl, by omega⟩]
     exact ⟨r, rfl, hr, hx⟩
    ·rw [if_pos rfl, if_neg hi] at hj; cases hj
   ·rw [if_neg e] at hj
    rw [if_neg (fun q => e q.1)]
    exact h2 j u hj
theorem wpList_appF {w : World} {ops : Array Oper} {rest : List Oper} {o : Oper} {a : Act} {Q : Exit → Act → World → Prop} (hgd : o.guard = none) (s x : Operand) (ho : o.op = .call { callee := .builtin .append, args := #[s, x], argTypes := #[25, 25] })
  {v : Value} {Z : List Nat} (H : Og w v Z) (hs : a.eval s = v) {g c r : Nat} (hx : a.eval x = .slice (some ⟨g, 0, none⟩) 1 c) (hc : w.cell? ⟨g, 0, none⟩ = some (.float .f64 r)) (hr : r < 2 * sgnW) (hl : Z.length ≤ 100000)
  (h : ∀ v' w', Og w' v' (Z ++ [cn r]) → (w'.os = w.os ∧ w'.tape = w.tape ∧ w'.output = w.output ∧ w.heap.size ≤ w'.heap.size) → (∀ k, k < w.heap.size → w'.heap[k]? = w.heap[k]? ∨ (v.ownBlock = some k ∧ NI w k)) → (v'.ownBlock = v.ownBlock ∨ v'.ownBlock = some w.heap.size) → wpList Tryz.prog ops Q rest (a.put o.dst v') w') :
  wpList Tryz.prog ops Q (o :: rest) a w := wpList_plain hgd fun K hK' => wp_appF s x ho H hs hx hc hr hl (fun v' w' a b c d => hK' _ _ (h v' w' a b c d))
structure Ap (w w' : World) (v v' : Value) : Prop where
 os : w'.os = w.os
 tape : w'.tape = w.tape
 output : w'.output = w.output
 size : w.heap.size ≤ w'.heap.size
 same : ∀ k, k < w.heap.size → v.ownBlock ≠ some k → w'.heap[k]? = w.heap[k]?
 own : v'.ownBlock = v.ownBlock ∨ v'.ownBlock = some w.heap.size
theorem Ap.bel {u w w' : World} {v v' : Value} (h : Ap w w' v v') (k : Bel u w) (hv : ∀ g, v.ownBlock = some g → u.heap.size ≤ g) : Bel u w' :=
 ⟨k.out.trans ⟨h.os, h.tape, h.output, h.size, fun i hi => h.same i (by have := k.size; omega) (fun e => by have := hv i e; omega)⟩⟩
theorem Ap.blk {w w' : World} {v v' : Value} (h : Ap w w' v v') {b : Nat} {t : TypeId} {cs : List Value} (k : Blk w b t cs) (hb : v.ownBlock ≠ some b) : Blk w' b t cs := blk_keep k (h.same b k.lt hb)
theorem Ap.og {w w' : World} {v v' u : Value} {Z : List Nat} (h : Ap w w' v v') (k : Og w u Z) (hb : ∀ g, u.ownBlock = some g → v.ownBlock ≠ some g) : Og w' u Z := k.keep fun g hg => h.same g (k.lt hg) (hb g hg)
theorem wpList_appA {w : World} {ops : Array Oper} {rest : List Oper} {o : Oper} {a : Act} {Q : Exit → Act → World → Prop} (hgd : o.guard = none) (s x : Operand) (ho : o.op = .call { callee := .builtin .append, args := #[s, x], argTypes := #[25, 25] })
  {v : Value} {Z : List Nat} (H : Og w v Z) (hs : a.eval s = v) {g c r : Nat} (hx : a.eval x = .slice (some ⟨g, 0, none⟩) 1 c) (hc : w.cell? ⟨g, 0, none⟩ = some (.float .f64 r)) (hr : r < 2 * sgnW) (hl : Z.length ≤ 100000) {Z' : List Nat} (hZ : Z' = Z ++ [cn r])
  (h : ∀ A c' w', Og w' (.slice A Z'.length c') Z' → Ap w w' v (.slice A Z'.length c') → wpList Tryz.prog ops Q rest (a.put o.dst (.slice A Z'.length c')) w') :
  wpList Tryz.prog ops Q (o :: rest) a w := wpList_appF hgd s x ho H hs hx hc hr hl fun v' w' k1 k2 k3 k4 => by
 subst hZ
 obtain ⟨A, c', rfl⟩ := k1.slice
 exact h A c' w' k1 ⟨k2.1, k2.2.1, k2.2.2.1, k2.2.2.2, fun k hk hn => (k3 k hk).elim id (fun q => (hn q.1).elim), k4⟩
def MakesF (w : World) (Z : List Nat) (e : Ending) (w' : World) : Prop := ∃ A c, e = .returned (.slice A Z.length c) ∧ RowF w' w.heap.size (.slice A Z.length c) Z ∧ Bel w w'
end Y3
namespace Po
open Ieee Go Gp Gq Gr G9 U0 W0 W1 W2 M0 M1 M2 M3 Pc
def nmB (x : Nat) : Bool := decide (x < 2 * sgnW) && (decide (frung x < infR) && (cn x == x))
theorem nm_of {x : Nat} (h : nmB x = true) : Nm x := by
 unfold nmB at h
 simp only [Bool.and_eq_true, decide_eq_true_eq, beq_iff_eq] at h
 exact ⟨h.1, h.2.1, h.2.2⟩
def twp (p q k : Nat) : Nat × Nat := tabW p (k * 2 ^ (p - (q + 1)))
end Po
namespace Y1
open Ieee Go Gp Gq Gr G9 U0 W0 W1 W2 M0 M1 M2 M3 Pc Po
section
variable {α : Type} (O : Ops α)
def binG (w : Nat × Nat) (x0 x1 x2 x3 : α) : α × α :=
 let t := cturn O (O.mul (O.add x1 x3) (O.lit halfW)) (O.mul (O.add (O.neg x0) x2) (O.lit halfW)) (O.lit w.1) (O.lit w.2)
 (O.add (O.mul (O.add x0 x2) (O.lit halfW)) t.1, O.add (O.mul (O.add x1 (O.neg x3)) (O.lit halfW)) t.2)
def packAt (tab : Nat → Nat × Nat) (m : Nat) (z : List α × List α) (i : Nat) : α :=
 if i = 0 then O.add (nthG O z.1 0) (nthG O z.2 0)
 else if i = 1 then O.sub (nthG O z.1 0) (nthG O z.2 0)
 else if i % 2 = 0 then (binG O (tab (i / 2)) (nthG O z.1 (i / 2)) (nthG O z.2 (i / 2)) (nthG O z.1 (m - i / 2)) (nthG O z.2 (m - i / 2))).1
 else (binG O (tab (i / 2)) (nthG O z.1 (i / 2)) (nthG O z.2 (i / 2)) (nthG O z.1 (m - i / 2)) (nthG O z.2 (m - i / 2))).2
end
def rfftZ (p : Nat) (X : List Nat) : List Nat × List Nat := intoN (p - 1) (evenG opsN X, oddG opsN X)
def rfftN (p : Nat) (X : List Nat) : List Nat := (List.range (2 ^ p)).map (packAt opsN (tabW p) (2 ^ (p - 1)) (rfftZ p X))
theorem two_half {p : Nat} (h : 1 ≤ p) : 2 ^ p = 2 * 2 ^ (p - 1) := by rw [← two_pow, show p - 1 + 1 = p by omega]
end Y1
namespace Y6
open Ieee Go Go.RowKit Go.Proofs Go.Proofs.YtalbgklfhabnkaaGreatDoor Ow Dt Gp I0 U0 W0 S4 S6 P0 M0 M1 M3 W4 W5 V2 P4 Y3 Yh Y1 P8 Pc
open Go.Proofs.YtalbgklfhabnkaaGreatDoor.V1 (NI St ni_same ni_loop St.refl St.of_bel blk_keep ni_blk put_st)
open Go.Proofs.YtalbgklfhabnkaaGreatDoor.C6 (leaveAny)
open Go.Proofs.YtalbgklfhabnkaaGreatDoor.Pg (In)
attribute [local go_sem ↓] Go.wp_at_zero Go.wp_at_succ
def okR (n : Nat) : Bool := decide (1 ≤ logI n)
def rfR (X : List Nat) : List Nat := if okR X.length then rfftN (Nat.log2 X.length) X else []
def errF (X : List Nat) : Int := if okR X.length then 0 else 2
theorem okR_pow {n : Nat} (h : okR n = true) : n = 2 ^ Nat.log2 n ∧ 1 ≤ Nat.log2 n ∧ n ≤ 1024 := by
 unfold okR at h
 have h := of_decide_eq_true h
 unfold logI at h
 split at h
 ·rename_i q; exact ⟨q.2.1.symm, by omega, q.2.2⟩
 ·omega
theorem logI_bad {n : Nat} (h : okR n = false) : logI n < 1 := by
 unfold okR at h
 have := of_decide_eq_false h
 omega
theorem log_7 {n : Nat} (h : n ≤ 128) (h2 : n = 2 ^ Nat.log2 n) : Nat.log2 n ≤ 7 := by
 apply Nat.le_of_not_lt; intro q
 have : 2 ^ 8 ≤ 2 ^ Nat.log2 n := Nat.pow_le_pow_right (by decide) q
 rw [← h2] at this; omega
def MakesRE (w : World) (Z : List Nat) (z : Int) (e : Ending) (w' : World) : Prop := ∃ A c, e = .returned (.tuple #[.slice A Z.length c, .int .i64 z]) ∧ RowF w' w.heap.size (.slice A Z.length c) Z ∧ Bel w w'
end Y6
namespace Pk
open Ieee Go Go.RowKit Go.Proofs Go.Proofs.YtalbgklfhabnkaaGreatDoor Ow Dt Gp I0 U0 W0 S4 S6 P0 M0 M1 M2 M3 P4 P5 P6 P8 Pa Pb W4 W5 W1 W2 Pc Pe Pg G1 G3
attribute [local go_sem ↓] Go.wp_at_zero Go.wp_at_succ
theorem take_succ_eq {X Y : List Nat} {i : Nat} (h : X.take i = Y.take i) (hx : i < X.length) (hy : i < Y.length) (e : nthN X i = nthN Y i) : X.take (i + 1) = Y.take (i + 1) := by
 rw [List.take_add_one, List.take_add_one, h, List.getElem?_eq_getElem hx, List.getElem?_eq_getElem hy]
 rw [nthN_lt hx, nthN_lt hy] at e
 rw [e]
theorem nth_ne {X Y : List Nat} {i : Nat} (h : nthN X i ≠ nthN Y i) : X ≠ Y := fun e => h (by rw [e])
theorem dSameRow {A B : Option Addr} {n m c c' : Nat} {X Y : List Nat} (W0 : World) (hx : Fr W0 A X) (hy : Fr W0 B Y) (hn : X.length = n) (hm : Y.length = m) (hl : n ≤ 100000) (hl' : m ≤ 100000) :
  Calls Tryz.prog 20 #[.slice A n c, .slice B m c'] W0 (fun e w' => e = .returned (.bool (decide (X = Y))) ∧ Bel W0 w') := by
 have FX := Ho.mk hx
 have FY := Ho.mk hy
 have HN := Ho.mk hn
 have HM := Ho.mk hm
 clear hx hy hn hm
 by_cases hnm : n = m
 ·subst hnm
  go_enter Tryz.func20, Tryz.ntmps20
  go_wp2_with fail
  go_loopw [5] (fun v wr => ∃ (i : Nat), i ≤ n ∧ v = .int .i64 i ∧ Ho (X.take i = Y.take i) ∧ Ho (Bel W0 wr)) (fun v _ => n - (intOf v).toNat)
  case atStart => exact ⟨0, Nat.zero_le _, rfl, ⟨by simp⟩, ⟨Bel.refl _⟩⟩
  case round =>
   obtain ⟨i, hi, rfl, HT, HW⟩ := hrel
   rcases Nat.lt_or_ge i n with hlt | hge
   ·obtain ⟨a1, r1, rfl, y1, l1, c1⟩ := FX.out.at_ (i := i) (by rw [HN.out]; exact hlt)
    obtain ⟨a2, r2, rfl, y2, l2, c2⟩ := FY.out.at_ (i := i) (by rw [HM.out]; exact hlt)
    have y1 := HW.out.cell y1
    have y2 := HW.out.cell y2
    have HC := Ho.mk (And.intro c1 c2)
    have HAL := Ho.mk (alike_cn l1 l2)
    clear c1 c2 l1 l2
    by_cases hc : cn r1 = cn r2
    ·have RS : Ho (∀ w, Calls Tryz.prog 47 #[.float .f64 r1, .float .f64 r2] w (Quiet w (.bool true))) := ⟨fun w => by have h := rsame_calls r1 r2 w; rw [HAL.out, decide_eq_true hc] at h; exact h⟩
     have HCC := Ho.mk hc
     clear hc
     go_upto_region 6 with fail
     refine wp_region_held_drew (S := fun w' => Bel wr w') (by kernel_rfl) (Bel.refl _).drew (fun hHeld => ?_)
     (try dsimp only at hHeld)
     generalize wr.drew = wd at *
     refine rt (i := 0) hHeld ?_
     refine rt (i := 1) hHeld ?_
     refine rt (i := 2) hHeld ?_
     refine rl (i := 3) (v := ?_) hHeld (fun w hSw => ?_) ?_
     rotate_left
     ·(have z0 := hSw.cell y1; have z1 := hSw.cell y2; go_simp; try (with_reducible rfl))
     refine rt (i := 4) hHeld ?_
     refine rt (i := 5) hHeld ?_
     refine rt (i := 6) hHeld ?_
     refine rl (i := 7) (v := ?_) hHeld (fun w hSw => ?_) ?_
     rotate_left
     ·(have z0 := hSw.cell y1; have z1 := hSw.cell y2; go_simp; try (with_reducible rfl))
     try simp only [Act.put, Ow.zS, Ow.zC, Ow.zD]
     refine rc (i := 8) (fun K hK => ?_)
     go_simp
     go_at_call 47
     (with_reducible refine (RS.out _).mono ?_); rintro e v1 ⟨rfl, hz⟩
     have bv1 : Bel wd v1 := by rw [hz]; exact Bel.refl _
     clear hz
     try go_wp2_with fail
     refine hK.out _ _ (Bel.trans hHeld bv1) (fun hHeld => ?_)
     clear hK K
     clear bv1
     refine rt (i := 9) hHeld ?_
     try simp only [Act.put, Ow.zS, Ow.zC, Ow.zD]
     refine wpAnyH_done (by kernel_rfl) ?_ _
     have HB := Ho.mk (HW.out.trans hHeld)
     clear hHeld
     go_wp2
     go_roundw
     case rel =>
      exact ⟨i + 1, by omega, by simp, ⟨take_succ_eq HT.out (by rw [HN.out]; exact hlt) (by rw [HM.out]; exact hlt) (by rw [← HC.out.1, ← HC.out.2]; exact HCC.out)⟩, HB⟩
     case measure => simp [intOf]; omega
    ·have RS : Ho (∀ w, Calls Tryz.prog 47 #[.float .f64 r1, .float .f64 r2] w (Quiet w (.bool false))) := ⟨fun w => by have h := rsame_calls r1 r2 w; rw [HAL.out, decide_eq_false hc] at h; exact h⟩
     have HCC := Ho.mk hc
     clear hc
     go_upto_region 6 with fail
     refine wp_region_held_drew (S := fun w' => Bel wr w') (by kernel_rfl) (Bel.refl _).drew (fun hHeld => ?_)
     (try dsimp only at hHeld)
     generalize wr.drew = wd at *
     refine rt (i := 0) hHeld ?_
     refine rt (i := 1) hHeld ?_
     refine rt (i := 2) hHeld ?_
     refine rl (i := 3) (v := ?_) hHeld (fun w hSw => ?_) ?_
     rotate_left
     ·(have z0 := hSw.cell y1; have z1 := hSw.cell y2; go_simp; try (with_reducible rfl))
     refine rt (i := 4) hHeld ?_
     refine rt (i := 5) hHeld ?_
     refine rt (i := 6) hHeld ?_
     refine rl (i := 7) (v := ?_) hHeld (fun w hSw => ?_) ?_
     rotate_left
     ·(have z0 := hSw.cell y1; have z1 := hSw.cell y2; go_simp; try (with_reducible rfl))
     try simp only [Act.put, Ow.zS, Ow.zC, Ow.zD]
     refine rc (i := 8) (fun K hK => ?_)
     go_simp
     go_at_call 47
     (with_reducible refine (RS.out _).mono ?_); rintro e v1 ⟨rfl, hz⟩
     have bv1 : Bel wd v1 := by rw [hz]; exact Bel.refl _
     clear hz
     try go_wp2_with fail
     refine hK.out _ _ (Bel.trans hHeld bv1) (fun hHeld => ?_)
     clear hK K
     clear bv1
     refine rt (i := 9) hHeld ?_
     try simp only [Act.put, Ow.zS, Ow.zC, Ow.zD]
     refine wpAnyH_done (by kernel_rfl) ?_ _
     have HB := Ho.mk (HW.out.trans hHeld)
     clear hHeld
     go_wp2
     go_ret
     exact ⟨by rw [decide_eq_false (nth_ne (i := i) (by rw [← HC.out.1, ← HC.out.2]; exact HCC.out))]; rfl, HB.out⟩
   ·obtain rfl : i = n := by omega
    go_wp2
    go_ret
    refine ⟨?_, HW.out⟩
    have := HT.out
    rw [List.take_of_length_le (by rw [HN.out]; exact Nat.le_refl _), List.take_of_length_le (by rw [HM.out]; exact Nat.le_refl _)] at this
    rw [decide_eq_true this]; rfl
 ·have hne : ¬ (n : Int) = (m : Int) := by omega
  go_enter Tryz.func20, Tryz.ntmps20
  go_wp2
  all_goals first
   | (exfalso; omega)
   | (go_ret; exact ⟨by rw [decide_eq_false (fun e => hnm (by rw [← HN.out, ← HM.out, e]))]; rfl, Bel.refl _⟩)
theorem dSameRowI {u v : Value} {X Y : List Nat} (w : World) (hx : In w u X) (hy : In w v Y) (hl : X.length ≤ 100000) (hl' : Y.length ≤ 100000) :
  Calls Tryz.prog 20 #[u, v] w (fun e w' => e = .returned (.bool (decide (X = Y))) ∧ Bel w w') := by
 obtain ⟨A, c, rfl, _, _, h1, _⟩ := hx.out
 obtain ⟨B, d, rfl, _, _, h2, _⟩ := hy.out
 exact dSameRow w h1 h2 rfl rfl hl hl'
end Pk
namespace Pq
open Ieee Go Go.RowKit Go.Proofs Go.Proofs.YtalbgklfhabnkaaGreatDoor Ow Gp Gq Gr G1 G3 I0 W0 W1 W2 P0 Po
attribute [local go_sem ↓] Go.wp_at_zero Go.wp_at_succ
theorem ord_c {r c : Nat} {v : Int} (h : r < 2 * sgnW) (hc : c < 2 * sgnW) (fc : frung c ≤ infR) (hv : V c = v) (hs : (FloatKind.f64.format.order r c).isSome = true) : frung r ≤ infR ∧ FloatKind.f64.format.order r c = some (compare (V r) v) := by
 by_cases q : infR < frung r
 ·rw [ord_no h hc (.inl q)] at hs; cases hs
 ·rw [← hv]; exact ⟨by omega, ord h hc (by omega) fc⟩
theorem ge_c {r c : Nat} {v : Int} (h : r < 2 * sgnW) (hc : c < 2 * sgnW) (fc : frung c ≤ infR) (hv : V c = v) (e : (FloatKind.f64.format.order r c == some .gt || FloatKind.f64.format.order r c == some .eq) = true) : frung r ≤ infR ∧ v ≤ V r := by
 obtain ⟨a, b⟩ := ord_c h hc fc hv (by cases q : FloatKind.f64.format.order r c <;> simp_all)
 refine ⟨a, ?_⟩
 rw [b, cmp_int] at e
 split at e
 ·simp at e
 ·omega
theorem le_c {r c : Nat} {v : Int} (h : r < 2 * sgnW) (hc : c < 2 * sgnW) (fc : frung c ≤ infR) (hv : V c = v) (e : (FloatKind.f64.format.order r c == some .lt || FloatKind.f64.format.order r c == some .eq) = true) : frung r ≤ infR ∧ V r ≤ v := by
 obtain ⟨a, b⟩ := ord_c h hc fc hv (by cases q : FloatKind.f64.format.order r c <;> simp_all)
 refine ⟨a, ?_⟩
 rw [b, cmp_int] at e
 split at e
 ·omega
 ·split at e
  ·omega
  ·simp at e
end Pq
namespace Y8
open Ieee Go Go.RowKit Go.Proofs Go.Proofs.YtalbgklfhabnkaaGreatDoor Ow Dt Gp I0 U0 W0 S4 S6 P0 M0 M1 M3 W4 W5 V2 P4 Y3 Yh Y1 P8 Pc Y6
open Go.Proofs.YtalbgklfhabnkaaGreatDoor.V1 (NI St ni_same ni_loop St.refl St.of_bel blk_keep ni_blk put_st)
open Go.Proofs.YtalbgklfhabnkaaGreatDoor.C6 (leaveAny)
open Go.Proofs.YtalbgklfhabnkaaGreatDoor.Pg (In)
attribute [local go_sem ↓] Go.wp_at_zero Go.wp_at_succ
def MakesRB (w : World) (Z : List Nat) (z : Bool) (e : Ending) (w' : World) : Prop := ∃ A c, e = .returned (.tuple #[.slice A Z.length c, .bool z]) ∧ RowF w' w.heap.size (.slice A Z.length c) Z ∧ Bel w w'
theorem in_at {w : World} {ad : Addr} {n c i : Nat} {X : List Nat} (h : In w (.slice (some ad) n c) X) (hi : i < X.length) : ∃ r, w.cell? (ad.add i) = some (.float .f64 r) ∧ r < 2 * sgnW ∧ cn r = nthN X i := by
 obtain ⟨A1, c1, e, _, _, k, _⟩ := h.out
 cases e
 obtain ⟨ad', v, e, hc, r, rfl, h1, h2⟩ := k.cell i hi
 cases e
 exact ⟨r, hc, h1, h2⟩
theorem in_some {w : World} {A : Option Addr} {n c : Nat} {X : List Nat} (h : In w (.slice A n c) X) (hp : 0 < X.length) : ∃ ad, A = some ad := by
 obtain ⟨A1, c1, e, _, _, k, _⟩ := h.out
 obtain ⟨ad, _, e2, _⟩ := k.cell 0 hp
 simp only [Value.slice.injEq] at e
 exact ⟨ad, e.1.trans e2⟩
theorem add_zero' (ad : Addr) : ad.add 0 = ad := by simp [Addr.add]
end Y8
namespace Z1
open Ieee Go Gp Gq Gr G9 U0 W0 W1 W2 M0 M1 M2 M3 Pc Po Y1
section
variable {α : Type} (O : Ops α)
def hlf (x : α) : α := O.mul x (O.lit halfW)
def backG (w : Nat × Nat) (x0 x1 x2 x3 : α) : α × α :=
 let t := cmul O (hlf O (O.sub x0 x2)) (hlf O (O.add x1 x3)) (O.lit w.1) (O.lit w.2)
 (O.sub (hlf O (O.add x0 x2)) t.2, O.add (hlf O (O.sub x1 x3)) t.1)
def backAt (tab : Nat → Nat × Nat) (m : Nat) (X : List α) (k : Nat) : α × α :=
 if k = 0 then (hlf O (O.add (nthG O X 0) (nthG O X 1)), hlf O (O.sub (nthG O X 0) (nthG O X 1)))
 else backG O (tab k) (nthG O X (2 * k)) (nthG O X (2 * k + 1)) (nthG O X (2 * (m - k))) (nthG O X (2 * (m - k) + 1))
end
def irfftZ (p : Nat) (X : List Nat) : List Nat × List Nat :=
 ((List.range (2 ^ (p - 1))).map (fun k => (backAt opsN (tabW p) (2 ^ (p - 1)) X k).1), (List.range (2 ^ (p - 1))).map (fun k => (backAt opsN (tabW p) (2 ^ (p - 1)) X k).2))
def zipG (n : Nat) (A B : List Nat) : List Nat := (List.range n).map fun i => if i % 2 = 0 then nthN A (i / 2) else nthN B (i / 2)
def irfftN (p : Nat) (X : List Nat) : List Nat := zipG (2 ^ p) (invN (p - 1) (irfftZ p X)).1 (invN (p - 1) (irfftZ p X)).2
theorem irfftN_len (p : Nat) (X : List Nat) : (irfftN p X).length = 2 ^ p := by simp [irfftN, zipG]
theorem zip_at {n i : Nat} {A B : List Nat} (h : i < n) : nthN (zipG n A B) i = if i % 2 = 0 then nthN A (i / 2) else nthN B (i / 2) := nthG_map opsN _ h
end Z1
namespace Lv
open Ieee Go Go.RowKit Go.Proofs Go.Proofs.YtalbgklfhabnkaaGreatDoor Ow Dt Gp I0 U0 W0 S4 S6 P0 M0 M1 M2 M3 P4 P5 P6 P8 Pa Pb W4 W5 W1 W2 Pc Pe Pg Pk
theorem litRow {w : World} {b n : Nat} {cs : List Value} {X : List Nat} (K : Blk w b 22 cs) (hc : cs = X.map (.float .f64)) (hX : X.all (fun x => decide (x < 2 * sgnW) && (cn x == x)) = true) (hn : X.length = n) (hl : n ≤ 1000) : RowF w b (.slice (some ⟨b, 0, none⟩) n n) X := by
 subst hc; subst hn
 have hx : ∀ x ∈ X, x < 2 * sgnW ∧ cn x = x := fun x h => by
  have := List.all_eq_true.1 hX x h
  simpa using this
 exact RowF.of ⟨_, K, fun j hj => ⟨.float .f64 X[j], by simp [hj], X[j], rfl, (hx _ (List.getElem_mem hj)).1, by rw [nthN_lt hj]; exact (hx _ (List.getElem_mem hj)).2⟩⟩ (Nat.le_refl _) (Nat.le_refl _) (Nat.le_trans hl (by decide))
theorem In.len {w : World} {A : Option Addr} {n c : Nat} {X : List Nat} (h : In w (.slice A n c) X) : n = X.length := by
 obtain ⟨A1, c1, e, _⟩ := h.out
 cases e; rfl
theorem RowF.len {w : World} {B : Nat} {A : Option Addr} {n c : Nat} {X : List Nat} (h : RowF w B (.slice A n c) X) : n = X.length := by
 obtain ⟨A1, c1, e, _⟩ := h.out
 cases e; rfl
theorem inn {w : World} {B : Nat} {v : Value} {X : List Nat} (h : RowF w B v X) (hm : X.length ≤ 100000) : In w v X := RowF.inn h (by omega)
end Lv
namespace Pf
open Go Go.ChangeShapes Go.WideShapes Go.ChangeAt Go.RowKit Go.Proofs.YtalbgklfhabnkaaGreatDoor Ow Dt Gp W0 W4 W5 Pg Pd
section
variable {H : Type} {enc : TypeId × Value → H} {P : Program} {w : World} {base : Nat} {spare : Nat → Bool} {held : Bool} {fuel m : Nat} {t : TypeId} {cs : List Value} {x : DataW H × List MemPlace}
theorem trod_float {k : FloatKind} (ht : P.underlying t = some (.float k)) (h : DataW.trod enc P w base spare held fuel t cs = some x) : ∃ n, cs = [.float k n] ∧ x = (.lit (.float k n), []) ∧ (Lit.float k n).wf = true := by
 cases fuel with
 | zero => simp [DataW.trod] at h
 | succ n =>
  unfold DataW.trod at h
  rw [ht] at h
  split at h <;> simp_all
end
theorem wf_lt {b : Nat} (h : (Lit.float .f64 b).wf = true) : b < 2 * sgnW := by
 have : b < 2 ^ 64 := by simpa [Lit.wf] using h
 exact this
theorem cF : Tryz.prog.cellsOf 22 = 1 := by kernel_rfl
theorem bytesF : Tryz.prog.bytesOf 22 = 8 := by kernel_rfl
def clsOf (V : Nat → Value) (n : Nat) : List Nat := (List.range n).map fun i => match V i with
 | .float _ b => cn b
 | _ => 0
theorem open_row {H : Type} {enc : TypeId × Value → H} {W : World} {fuel : Nat} {cs : List Value} {x : DataW H × List MemPlace} (h : DataW.trod enc Tryz.prog W 0 (fun _ => true) true fuel 25 cs = some x)
  (hsz : ∀ n ∈ x.1.weights Tryz.prog 25, n ≤ reachBytes) : ∃ A c X, cs = [.slice A X.length c] ∧ In W (.slice A X.length c) X ∧ X.length ≤ 17592186043904 := by
 rcases Deep.open_slice1 Tryz.underlying25 cF h with ⟨h1, _⟩ | ⟨a, len, cap, m, n, V, D, Pl, rfl, _, hle, hmax, hm, hx, hV⟩
 ·exact ⟨none, 0, [], h1, ⟨none, 0, rfl, Nat.le_refl _, by decide, Fr.nil _ _, fun _ => rfl⟩, by simp⟩
 ·rw [if_pos rfl] at hm
  have hq : cap * 8 ≤ reachBytes := by
   refine hsz (cap * 8) ?_
   rw [congrArg Prod.fst hx]
   simp only [DataW.weights, Tryz.underlying25, bytesF, List.length_map, List.length_range, List.mem_cons]
   left; rw [hm, Nat.add_sub_cancel' hle]
  have hr : cap ≤ 17592186043904 := by
   have e8 : cap * 8 ≤ 17592186043904 * 8 := Nat.le_trans hq (by decide)
   exact Nat.le_of_mul_le_mul_right e8 (by decide)
  have hlen : (clsOf V len).length = len := by simp [clsOf]
  refine ⟨some a, cap, clsOf V len, by rw [hlen], ⟨some a, cap, by rw [hlen], by rw [hlen]; exact hle, hmax, ⟨by rw [hlen]; omega, fun j hj => ?_⟩, fun e => by cases e⟩, by rw [hlen]; omega⟩
  rw [hlen] at hj
  obtain ⟨k1, k2⟩ := hV j (by omega)
  obtain ⟨b, e, _, hw⟩ := trod_float Tryz.underlying22 k2
  simp only [List.cons.injEq, and_true] at e
  refine ⟨a, V j, rfl, k1, b, e, wf_lt hw, ?_⟩
  rw [nthN_lt (by rw [hlen]; exact hj)]
  simp [clsOf, e]
theorem open_floats {H : Type} {enc : TypeId × Value → H} {W : World} {base : Nat} {v : Value} {d : DataW H} {p : List MemPlace} (hval : Value.okWide Tryz.prog W .any base 25 v) (hd : DataW.Trod enc Tryz.prog W 0 (fun _ => true) true 25 v d p)
  (hsz : ∀ n ∈ d.weights Tryz.prog 25, n ≤ reachBytes) : ∃ A c X, v = .slice A X.length c ∧ In W (.slice A X.length c) X := by
 obtain ⟨a, len, cap, rfl⟩ := WideShapes.okWide_slice Tryz.underlying25 hval
 obtain ⟨fuel, hf⟩ := hd
 obtain ⟨A, c, X, e, h, _⟩ := open_row hf hsz
 simp only [Value.cells, List.cons.injEq, and_true] at e
 exact ⟨A, c, X, e, h⟩
end Pf
namespace Ld
open Ieee Go Go.RowKit Go.Proofs Go.Proofs.YtalbgklfhabnkaaGreatDoor Ow Dt Gp I0 U0 W0 S4 S6 P0 M0 M1 M2 M3 P4 P5 P6 P8 Pa Pb W4 W5 W1 W2 Pc Pe Pg Pk Lv Po Pq Yh
attribute [local go_sem ↓] Go.wp_at_zero Go.wp_at_succ
theorem fz_zero {w : World} {b N : Nat} (K : Blk w b 22 (List.replicate N (.float .f64 0))) : Fz w b (List.replicate N 0) :=
 ⟨_, K, fun j hj => ⟨.float .f64 0, by rw [List.getElem?_replicate, if_pos (by simpa using hj)], 0, rfl, by decide, by
  have : j < N := by simpa using hj
  simp [nthN, List.getD_eq_getElem?_getD, List.getElem?_replicate, this, cn_zero]⟩⟩
end Ld
namespace K2
open Ieee Go Go.RowKit Go.Proofs Go.Proofs.YtalbgklfhabnkaaGreatDoor Ow Dt Gp I0 U0 W0 S4 S6 P0 M0 M1 M3 W4 W5 V2 P4 Y3 Yh Y1 Y8 Z1
open Go.Proofs.YtalbgklfhabnkaaGreatDoor.V1 (NI St ni_same ni_loop St.refl St.of_bel blk_keep ni_blk put_st)
open Go.Proofs.YtalbgklfhabnkaaGreatDoor.C6 (leaveAny)
open Go.Proofs.YtalbgklfhabnkaaGreatDoor.Pg (In)
open Go.Proofs.YtalbgklfhabnkaaGreatDoor.S4 (infoF)
open Go.Proofs.YtalbgklfhabnkaaGreatDoor.Ld (fz_zero)
attribute [local go_sem ↓] Go.wp_at_zero Go.wp_at_succ
def zrow (n : Nat) (X Y : List Nat) (i k : Nat) : List Nat := (List.range n).map fun j => if j % 2 = 0 then (if j / 2 < i then nthN X (j / 2) else 0) else if j / 2 < k then nthN Y (j / 2) else 0
theorem zrow_len (n : Nat) (X Y : List Nat) (i k : Nat) : (zrow n X Y i k).length = n := by simp [zrow]
theorem zrow_zero (n : Nat) (X Y : List Nat) : zrow n X Y 0 0 = List.replicate n 0 := by
 apply List.ext_getElem (by simp [zrow])
 intro i h1 h2
 simp [zrow]
theorem zrow_even {n : Nat} {X Y : List Nat} {i k : Nat} (h : 2 * i < n) {x : Nat} (hx : x = nthN X i) : (zrow n X Y i k).set (2 * i) x = zrow n X Y (i + 1) k := by
 subst hx
 apply List.ext_getElem (by simp [zrow])
 intro j h1 h2
 rw [List.getElem_set]
 simp only [zrow, List.getElem_map, List.getElem_range]
 by_cases e : 2 * i = j
 ·subst e; rw [if_pos rfl, if_pos (by omega), if_pos (by omega)]; congr 1; omega
 ·rw [if_neg e]
  by_cases p : j % 2 = 0
  ·rw [if_pos p, if_pos p]
   by_cases q : j / 2 < i
   ·rw [if_pos q, if_pos (by omega)]
   ·rw [if_neg q, if_neg (by omega)]
  ·rw [if_neg p, if_neg p]
theorem zrow_odd {n : Nat} {X Y : List Nat} {i k : Nat} (h : 2 * k + 1 < n) {x : Nat} (hx : x = nthN Y k) : (zrow n X Y i k).set (2 * k + 1) x = zrow n X Y i (k + 1) := by
 subst hx
 apply List.ext_getElem (by simp [zrow])
 intro j h1 h2
 rw [List.getElem_set]
 simp only [zrow, List.getElem_map, List.getElem_range]
 by_cases e : 2 * k + 1 = j
 ·subst e; rw [if_pos rfl, if_neg (by omega), if_pos (by omega)]; congr 1; omega
 ·rw [if_neg e]
  by_cases p : j % 2 = 0
  ·rw [if_pos p, if_pos p]
  ·rw [if_neg p, if_neg p]
   by_cases q : j / 2 < k
   ·rw [if_pos q, if_pos (by omega)]
   ·rw [if_neg q, if_neg (by omega)]
theorem zrow_all (n : Nat) (X Y : List Nat) : zrow (n + n) X Y n n = zipG (n + n) X Y := by
 apply List.ext_getElem (by simp [zrow, zipG])
 intro j h1 h2
 simp only [zrow, List.length_map, List.length_range] at h1
 simp only [zrow, zipG, List.getElem_map, List.getElem_range]
 split
 ·rw [if_pos (by omega)]
 ·rw [if_pos (by omega)]
theorem dZip {A B : Option Addr} {c d n : Nat} {X Y : List Nat} (w : World) (hx : In w (.slice A n c) X) (hy : In w (.slice B n d) Y) (hX : X.length = n) (hY : Y.length = n) (h0 : 1 ≤ n) (hl : n ≤ 1000) :
  Calls Tryz.prog 46 #[.slice A n c, .slice B n d] w (MakesRB w (zipG (n + n) X Y) true) := by
 obtain ⟨adX, hA⟩ := in_some hx (by omega)
 obtain ⟨adY, hB⟩ := in_some hy (by omega)
 subst hA; subst hB
 have HX := Ho.mk hx
 have HY := Ho.mk hy
 have HXL := Ho.mk hX
 have HYL := Ho.mk hY
 clear hx hy hX hY
 go_enter Tryz.func46, Tryz.ntmps46
 go_wp2_with (at_make; refine wpList_mk _ rfl _ _ 25 rfl 22 (.float .f64 0) 8 Tryz.underlying25 infoF rfl (n + n) rfl rfl (by omega) (by omega) ?_; intro w1 hk hb hs)
 have H := Ho.mk ((Hp.nil (Bel.refl w)).new (e := .row w.heap.size (List.replicate (n + n) 0)) hb (fz_zero hk) (Nat.le_refl _))
 rw [← zrow_zero (n + n) X Y] at H
 clear hk hb hs
 generalize w.heap.size = bo at *
 generalize w1 = w2 at *
 go_loopw [31] (fun v wr => ∃ (i : Nat), i ≤ n ∧ v = .int .i64 i ∧ Ho (Hp w wr [.row bo (zrow (n + n) X Y i 0)])) (fun v _ => n - (intOf v).toNat)
 case atStart => exact ⟨0, Nat.zero_le _, rfl, H⟩
 case round =>
  clear H
  obtain ⟨i, hi, rfl, H⟩ := hrel
  rcases Nat.lt_or_ge i n with hlt | hge
  ·obtain ⟨r, y1, l1, c1⟩ := in_at (HX.out.bel H.out.bel) (i := i) (by rw [HXL.out]; exact hlt)
   obtain ⟨_, y0, _, _⟩ := (H.out.row 0 rfl).at_ (i := 2 * i) (by rw [zrow_len]; omega)
   have x0 := (H.out.row 0 rfl).free (2 * i)
   have e1 : (2 * (i : Int)).toNat = 2 * i := by omega
   have e2 : (2 * (i : Int) + 1).toNat = 2 * i + 1 := by omega
   have HC := Ho.mk (And.intro l1 c1)
   clear l1 c1
   go_wp2_with fail
   have HF := H.out.setF 0 rfl (2 * i) HC.out.1 HC.out.2
   simp only [List.set_cons_zero] at HF
   rw [zrow_even (by omega) rfl] at HF
   replace H := Ho.mk HF
   clear HF y0 y1 x0 HC
   go_roundw
   case rel => exact ⟨i + 1, by omega, by simp, H⟩
   case measure => simp [intOf]; omega
  ·obtain rfl : n = i := by omega
   obtain ⟨wo, rfl⟩ : ∃ wo : World, wo = wr := ⟨_, rfl⟩
   go_wp2_with fail
   go_loopw [44] (fun v wr => ∃ (i : Nat), i ≤ n ∧ v = .int .i64 i ∧ Ho (Hp w wr [.row bo (zrow (n + n) X Y n i)])) (fun v _ => n - (intOf v).toNat)
   case atStart => exact ⟨0, Nat.zero_le _, rfl, H⟩
   case round =>
    clear H
    obtain ⟨i, hi, rfl, H⟩ := hrel
    rcases Nat.lt_or_ge i n with hlt | hge
    ·obtain ⟨r, y1, l1, c1⟩ := in_at (HY.out.bel H.out.bel) (i := i) (by rw [HYL.out]; exact hlt)
     obtain ⟨_, y0, _, _⟩ := (H.out.row 0 rfl).at_ (i := 2 * i + 1) (by rw [zrow_len]; omega)
     have x0 := (H.out.row 0 rfl).free (2 * i + 1)
     have e1 : (2 * (i : Int)).toNat = 2 * i := by omega
     have e2 : (2 * (i : Int) + 1).toNat = 2 * i + 1 := by omega
     have HC := Ho.mk (And.intro l1 c1)
     clear l1 c1
     go_wp2_with fail
     have HF := H.out.setF 0 rfl (2 * i + 1) HC.out.1 HC.out.2
     simp only [List.set_cons_zero] at HF
     rw [zrow_odd (by omega) rfl] at HF
     replace H := Ho.mk HF
     clear HF y0 y1 x0 HC
     go_roundw
     case rel => exact ⟨i + 1, by omega, by simp, H⟩
     case measure => simp [intOf]; omega
    ·obtain rfl : n = i := by omega
     go_wp2
     go_ret2
     have F := H.out.row 0 rfl
     rw [zrow_all] at F
     have l : (zipG (n + n) X Y).length = n + n := by simp [zipG]
     refine ⟨some ⟨bo, 0, none⟩, n + n, by rw [l]; rfl, ?_, H.out.bel⟩
     rw [l]
     have R := RowF.of F (H.out.geI 0 rfl) (c := n + n) (by rw [l]; exact Nat.le_refl _) (by omega)
     rw [l] at R
     exact R
end K2
namespace Ps
open Ieee Go Go.RowKit Go.Proofs Go.Proofs.YtalbgklfhabnkaaGreatDoor Ow Pl Gp F1 I0 W0 S3 S4 P0 P1
attribute [local go_sem ↓] Go.wp_at_zero Go.wp_at_succ
theorem dMulP {a b c d : Nat} (w : World) (ha : a < 2 * sgnW) (hb : b < 2 * sgnW) (hc : c < 2 * sgnW) (hd : d < 2 * sgnW) :
  Calls Tryz.prog 77 #[.agg #[.float .f64 a, .float .f64 b], .agg #[.float .f64 c, .float .f64 d]] w (TellsP w (fsub (fmul (cn a) (cn c)) (fmul (cn b) (cn d)), fadd (fmul (cn a) (cn d)) (fmul (cn b) (cn c)))) := by
 have BY := Ho.mk (fun w => dBy w ha hb hc hd)
 clear ha hb hc hd
 go_enter Tryz.func77, Tryz.ntmps77
 have KP := Ho.mk (((Blk.new w [.float .f64 a, .float .f64 b] 107).old (.cells #[.float .f64 c, .float .f64 d] 107)).old (.cells #[.float .f64 0, .float .f64 0] 107))
 have KQ := Ho.mk ((Blk.new (w.alloc (.cells #[.float .f64 a, .float .f64 b] 107)) [.float .f64 c, .float .f64 d] 107).old (.cells #[.float .f64 0, .float .f64 0] 107))
 rw [World.size_alloc] at KQ
 have KR := Ho.mk (Blk.new ((w.alloc (.cells #[.float .f64 a, .float .f64 b] 107)).alloc (.cells #[.float .f64 c, .float .f64 d] 107)) [.float .f64 0, .float .f64 0] 107)
 rw [World.size_alloc, World.size_alloc] at KR
 have g0 := Ho.mk ((((Bel.refl w).alloc (.cells #[.float .f64 a, .float .f64 b] 107)).alloc (.cells #[.float .f64 c, .float .f64 d] 107)).alloc (.cells #[.float .f64 0, .float .f64 0] 107))
 have hS : (((w.alloc (.cells #[.float .f64 a, .float .f64 b] 107)).alloc (.cells #[.float .f64 c, .float .f64 d] 107)).alloc (.cells #[.float .f64 0, .float .f64 0] 107)).heap.size = w.heap.size + 1 + 1 + 1 := by simp only [World.size_alloc]
 go_upto_region 1 with fail
 generalize (((w.alloc (.cells #[.float .f64 a, .float .f64 b] 107)).alloc (.cells #[.float .f64 c, .float .f64 d] 107)).alloc (.cells #[.float .f64 0, .float .f64 0] 107)) = W at *
 obtain ⟨x0, x1⟩ := KP.out.c2
 obtain ⟨y0, y1⟩ := KQ.out.c2
 go_wp2_with fail
 (with_reducible refine (BY.out _).mono ?_); rintro e w5 ⟨r, s, t, u, rfl, l5, c5, b5⟩
 have KR := Ho.mk (KR.out.bel b5)
 have g2 := Ho.mk (g0.out.trans b5)
 clear x0 x1 y0 y1 b5 KP KQ
 go_upto_region 2 with fail
 have KX := Ho.mk ((Blk.new w5 [.float .f64 r, .float .f64 s] 107).old (.cells #[.float .f64 t, .float .f64 u] 107))
 have KY := Ho.mk (Blk.new (w5.alloc (.cells #[.float .f64 r, .float .f64 s] 107)) [.float .f64 t, .float .f64 u] 107)
 rw [World.size_alloc] at KY
 have KR := Ho.mk ((KR.out.old (.cells #[.float .f64 r, .float .f64 s] 107)).old (.cells #[.float .f64 t, .float .f64 u] 107))
 have g3 := Ho.mk ((g2.out.alloc (.cells #[.float .f64 r, .float .f64 s] 107)).alloc (.cells #[.float .f64 t, .float .f64 u] 107))
 have A1 := Ho.mk (fun w => dOSub w l5.1.1 l5.2.1)
 have A2 := Ho.mk (fun w => dOAdd w l5.1.2 l5.2.2)
 have C5 := Ho.mk c5
 clear l5 c5 g2
 generalize (w5.alloc (.cells #[.float .f64 r, .float .f64 s] 107)).alloc (.cells #[.float .f64 t, .float .f64 u] 107) = W3 at *
 obtain ⟨x0, x1⟩ := KX.out.c2
 obtain ⟨y0, y1⟩ := KY.out.c2
 refine I7.wp_region_late 11 (S := fun w' => Bel W3 w') (by kernel_rfl) (Bel.refl _).drew (fun hHeld => ?_)
 (try dsimp only at hHeld)
 refine I7.kt (i := 0) hHeld ?_
 refine I7.kl (i := 1) (v := ?_) hHeld (fun w hSw => ?_) ?_
 rotate_left
 ·(have z0 := hSw.cell x0; go_simp; try (with_reducible rfl))
 refine I7.kt (i := 2) hHeld ?_
 refine I7.kl (i := 3) (v := ?_) hHeld (fun w hSw => ?_) ?_
 rotate_left
 ·(have z0 := hSw.cell y0; go_simp; try (with_reducible rfl))
 refine I7.kt (i := 5) hHeld ?_
 refine I7.kl (i := 6) (v := ?_) hHeld (fun w hSw => ?_) ?_
 rotate_left
 ·(have z0 := hSw.cell x1; go_simp; try (with_reducible rfl))
 refine I7.kt (i := 7) hHeld ?_
 refine I7.kl (i := 8) (v := ?_) hHeld (fun w hSw => ?_) ?_
 rotate_left
 ·(have z0 := hSw.cell y1; go_simp; try (with_reducible rfl))
 try simp only [Act.put, Ow.zS, Ow.zC, Ow.zD]
 refine I7.kc (i := 4) (fun K hK => ?_)
 go_simp
 go_at_call 42
 (with_reducible refine (A1.out _).mono ?_); rintro e w6 ⟨r6, rfl, l6, c6, b6⟩
 try go_wp2_with fail
 refine hK.out _ _ (Bel.trans hHeld b6) (fun hHeld => ?_)
 clear hK K
 try simp only [Act.put, Ow.zS, Ow.zC, Ow.zD]
 refine I7.kc (i := 9) (fun K hK => ?_)
 go_simp
 go_at_call 41
 (with_reducible refine (A2.out _).mono ?_); rintro e w7 ⟨r7, rfl, l7, c7, b7⟩
 try go_wp2_with fail
 refine hK.out _ _ (Bel.trans hHeld b7) (fun hHeld => ?_)
 clear hK K
 refine I7.kt (i := 10) hHeld ?_
 have KR := Ho.mk (KR.out.bel hHeld)
 have g4 := Ho.mk (g3.out.trans hHeld)
 clear x0 x1 y0 y1 hHeld
 obtain ⟨y0, y1⟩ := KR.out.c2
 have z0 := KR.out.free 0
 have z1 := KR.out.free 1
 try simp only [Act.put, Ow.zS, Ow.zC, Ow.zD]
 refine I7.ke (i := 11) (fun K hK => ?_)
 go_simp
 refine hK.out _ _ ?_
 clear hK K
 try simp only [Act.put, Ow.zS, Ow.zC, Ow.zD]
 refine wpAny_done (by kernel_rfl) ?_ _
 go_wp2
 exact bodyPost_ret (resP (fn := Tryz.f77) rfl rfl ((KR.out.set 0 (.float .f64 r6)).set 1 (.float .f64 r7))) rfl ⟨r6, r7, rfl, ⟨l6, l7⟩, ⟨by rw [c6, C5.out.1.1, C5.out.2.1], by rw [c7, C5.out.1.2, C5.out.2.2]⟩, ⟨((g4.out.out.setCell (p := ⟨w.heap.size + 1 + 1, 0, none⟩) (by dsimp only; omega) (.float .f64 r6)).setCell (p := ⟨w.heap.size + 1 + 1, 1, none⟩) (by dsimp only; omega) (.float .f64 r7))⟩⟩
theorem dCMul {a b c d : Nat} (w : World) (ha : a < 2 * sgnW) (hb : b < 2 * sgnW) (hc : c < 2 * sgnW) (hd : d < 2 * sgnW) :
  Calls Tryz.prog 44 #[.float .f64 a, .float .f64 b, .float .f64 c, .float .f64 d] w (Tells2 w (fsub (fmul (cn a) (cn c)) (fmul (cn b) (cn d)), fadd (fmul (cn a) (cn d)) (fmul (cn b) (cn c)))) := by
 have BB : Ho (∀ w, Calls Tryz.prog 77 #[.agg #[.float .f64 a, .float .f64 b], .agg #[.float .f64 c, .float .f64 d]] w (TellsP w (fsub (fmul (cn a) (cn c)) (fmul (cn b) (cn d)), fadd (fmul (cn a) (cn d)) (fmul (cn b) (cn c))))) := ⟨fun w => dMulP w ha hb hc hd⟩
 have TD : Ho (∀ w, Calls Tryz.prog 76 #[.func (.func 77) #[] #[], .float .f64 a, .float .f64 b, .float .f64 c, .float .f64 d] w (Tells2 w (fsub (fmul (cn a) (cn c)) (fmul (cn b) (cn d)), fadd (fmul (cn a) (cn d)) (fmul (cn b) (cn c))))) := by
  refine ⟨fun w => ?_⟩
  clear ha hb hc hd
  go_enter Tryz.func76, Tryz.ntmps76
  go_wp2_with fail
  (with_reducible refine (BB.out _).mono ?_); rintro e w5 ⟨r, s, rfl, l5, c5, b5⟩
  have KX := Ho.mk (Blk.new w5 [.float .f64 r, .float .f64 s] 107)
  have g2 := Ho.mk (b5.alloc (.cells #[.float .f64 r, .float .f64 s] 107))
  have HH := Ho.mk (And.intro l5 c5)
  clear l5 c5 b5
  obtain ⟨y0, y1⟩ := KX.out.c2
  go_upto_region 2 with fail
  generalize w5.alloc (.cells #[.float .f64 r, .float .f64 s] 107) = W3 at *
  go_region
  go_wp2
  go_ret2
  exact ⟨r, s, rfl, HH.out.1, HH.out.2, g2.out.drew⟩
 clear ha hb hc hd BB
 go_enter Tryz.func44, Tryz.ntmps44
 go_wp2_with fail
 (with_reducible refine (TD.out _).mono ?_); rintro e w5 ⟨r, s, rfl, l5, c5, b5⟩
 go_wp2
 go_ret2
 exact ⟨r, s, rfl, l5, c5, b5⟩
end Ps
namespace K1
open Ieee Go Go.RowKit Go.Proofs Go.Proofs.YtalbgklfhabnkaaGreatDoor Ow Dt Gp I0 U0 W0 S4 S6 P0 M0 M1 M3 W4 W5 V2 P4 Y3 Yh P0 Z1
open Go.Proofs.YtalbgklfhabnkaaGreatDoor.V1 (NI St ni_same ni_loop St.refl St.of_bel blk_keep ni_blk put_st)
open Go.Proofs.YtalbgklfhabnkaaGreatDoor.C6 (leaveAny)
open Go.Proofs.YtalbgklfhabnkaaGreatDoor.Pg (In)
attribute [local go_sem ↓] Go.wp_at_zero Go.wp_at_succ
theorem resN {fn : Func} {p : Tmp} {tmps : Array Value} {w : World} {b : Nat} {v0 v1 : Value} (hf : fn.results = #[.cell p 48]) (hp : tmps.getD p undef = .pointer (some ⟨b, 0, none⟩)) (h : Blk w b 48 [v0, v1]) :
  (results fn tmps).run Tryz.prog w = .ok (.agg #[v0, v1]) w := by
 obtain ⟨y0, y1⟩ := h.c2
 have hp2 := hp
 rw [Array.getD_eq_getD_getElem?] at hp2
 simp [results, hf, hp2, go_sem, y0, y1]
theorem cn_half : cn 4602678819172646912 = halfW := by decide +kernel
theorem bel_set2 {w w' : World} (g : Bel w w') {b : Nat} (hb : w.heap.size ≤ b) (v0 v1 : Value) : Bel w ((w'.setCell ⟨b, 0, none⟩ v0).setCell ⟨b, 1, none⟩ v1) :=
 ⟨(g.out.setCell (p := ⟨b, 0, none⟩) hb v0).setCell (p := ⟨b, 1, none⟩) hb v1⟩
theorem dHalved {a b : Nat} (w : World) (ha : a < 2 * sgnW) (hb : b < 2 * sgnW) :
  Calls Tryz.prog 40 #[.float .f64 a, .float .f64 b] w (TellsP w (hlf M3.opsN (cn a), hlf M3.opsN (cn b))) := by
 have M := Ho.mk (fun w => P0.dHalf w ha hb)
 clear ha hb
 go_enter Tryz.func40, Tryz.ntmps40
 go_wp2_with fail
 have K0 := Ho.mk (Blk.new w [.float .f64 0, .float .f64 0] 48)
 have G0 := Ho.mk ((Bel.refl w).alloc (.cells #[.float .f64 0, .float .f64 0] 48))
 generalize w.alloc (.cells #[.float .f64 0, .float .f64 0] 48) = w0 at *
 (with_reducible refine (M.out _).mono ?_); rintro e w1 ⟨r, s, rfl, l1, c1, b1⟩
 have K1 := Ho.mk (K0.out.bel b1)
 have G1 := Ho.mk (G0.out.trans b1)
 have C1 := Ho.mk (And.intro l1 c1)
 clear K0 M b1 l1 c1
 obtain ⟨y0, y1⟩ := K1.out.c2
 have z0 := K1.out.free 0
 have z1 := K1.out.free 1
 go_wp2
 exact bodyPost_ret (resN (fn := Tryz.f40) rfl rfl ((K1.out.set 0 (.float .f64 r)).set 1 (.float .f64 s))) rfl ⟨r, s, rfl, C1.out.1, ⟨by rw [C1.out.2.1, cn_half]; rfl, by rw [C1.out.2.2, cn_half]; rfl⟩, bel_set2 G1.out (Nat.le_refl _) _ _⟩
theorem dAtN {A : Option Addr} {c k b1 : Nat} {X : List Nat} (w : World) (KB : Blk w b1 25 [.slice A X.length c]) (hx : In w (.slice A X.length c) X) (hk : 2 * k + 1 < X.length) (hn : X.length ≤ 100000) :
  Calls Tryz.prog 37 #[.int .i64 (k : Int), .pointer (some ⟨b1, 0, none⟩)] w (TellsP w (nthN X (2 * k), nthN X (2 * k + 1))) := by
 obtain ⟨A1, c1, e, _, _, kf, _⟩ := hx.out
 cases e
 obtain ⟨ad, v0, rfl, y0, r, rfl, l0, c0⟩ := kf.cell (2 * k) (by omega)
 obtain ⟨ad', v1, e, y1, s, rfl, l1, c1'⟩ := kf.cell (2 * k + 1) (by omega)
 cases e
 have yb0 := KB.cell (i := 0) rfl
 have C := Ho.mk (And.intro (And.intro l0 l1) (And.intro c0 c1'))
 have K0 := Ho.mk (Blk.new w [.float .f64 0, .float .f64 0] 48)
 have G0 := Ho.mk ((Bel.refl w).alloc (.cells #[.float .f64 0, .float .f64 0] 48))
 have yb := G0.out.cell yb0
 have ya := G0.out.cell y0
 have yc := G0.out.cell y1
 have yd := yc
 unfold Addr.add at yd
 rw [if_neg (by omega)] at yd
 have h1 : (2 : Int) * (k : Int) + 1 < (X.length : Int) := by omega
 have h2 : (2 : Int) * (k : Int) < (X.length : Int) := by omega
 have h3 : (0 : Int) ≤ 2 * (k : Int) := by omega
 have h4 : (0 : Int) ≤ 2 * (k : Int) + 1 := by omega
 have e1 : ((2 : Int) * (k : Int)).toNat = 2 * k := by omega
 have e2 : ((2 : Int) * (k : Int) + 1).toNat = 2 * k + 1 := by omega
 have v1 : IntKind.i64.wrap (2 * (k : Int)) = 2 * (k : Int) := by rw [IntKind.wrap_i64]; omega
 have v2 : IntKind.i64.wrap (2 * (k : Int) + 1) = 2 * (k : Int) + 1 := by rw [IntKind.wrap_i64]; omega
 clear KB hx kf l0 l1 c0 c1' y0 y1 yb0
 go_enter Tryz.func37, Tryz.ntmps37
 go_upto_region 1 with fail
 generalize w.alloc (.cells #[.float .f64 0, .float .f64 0] 48) = w0 at *
 refine I7.wp_region_late 12 (S := fun w' => Bel w0 w') (by kernel_rfl) (Bel.refl _).drew (fun hHeld => ?_)
 (try dsimp only at hHeld)
 refine I7.kl (i := 0) (v := ?_) hHeld (fun w hSw => ?_) ?_
 rotate_left
 ·(have z0 := hSw.cell yb; go_simp; try (with_reducible rfl))
 refine I7.kt (i := 1) hHeld ?_
 refine I7.kt (i := 2) hHeld ?_
 refine I7.kt (i := 3) hHeld ?_
 refine I7.kl (i := 4) (v := ?_) hHeld (fun w hSw => ?_) ?_
 rotate_left
 ·(have z0 := hSw.cell ya; go_simp; try (with_reducible rfl))
 refine I7.kl (i := 5) (v := ?_) hHeld (fun w hSw => ?_) ?_
 rotate_left
 ·(have z0 := hSw.cell yb; go_simp; try (with_reducible rfl))
 refine I7.kt (i := 6) hHeld ?_
 refine I7.kt (i := 7) hHeld ?_
 refine I7.kt (i := 8) hHeld ?_
 refine I7.kt (i := 9) hHeld ?_
 refine I7.kl (i := 10) (v := ?_) hHeld (fun w hSw => ?_) ?_
 rotate_left
 ·(have z0 := hSw.cell yc; have z1 := hSw.cell yd; go_simp; try (with_reducible rfl))
 refine I7.kt (i := 11) hHeld ?_
 have K1 := Ho.mk (K0.out.bel hHeld)
 have G1 := Ho.mk (G0.out.trans hHeld)
 clear yb ya yc yd hHeld
 generalize w0.drew = w1 at *
 obtain ⟨y0, y1⟩ := K1.out.c2
 have z0 := K1.out.free 0
 have z1 := K1.out.free 1
 try simp only [Act.put, Ow.zS, Ow.zC, Ow.zD]
 refine I7.ke (i := 12) (fun K hK => ?_)
 go_simp
 refine hK.out _ _ ?_
 clear hK K
 try simp only [Act.put, Ow.zS, Ow.zC, Ow.zD]
 refine wpAny_done (by kernel_rfl) ?_ _
 go_wp2
 exact bodyPost_ret (resN (fn := Tryz.f37) rfl rfl ((K1.out.set 0 (.float .f64 r)).set 1 (.float .f64 s))) rfl ⟨r, s, rfl, C.out.1, C.out.2, bel_set2 G1.out (Nat.le_refl _) _ _⟩
structure Ch (e : Nat → Prop) (w w' : World) : Prop where
 os : w'.os = w.os
 tape : w'.tape = w.tape
 output : w'.output = w.output
 size : w.heap.size ≤ w'.heap.size
 block : ∀ k, k < w.heap.size → ¬ e k → w'.heap[k]? = w.heap[k]?
section
variable {e : Nat → Prop} {u v w : World}
theorem Ch.refl (e : Nat → Prop) (w : World) : Ch e w w := ⟨rfl, rfl, rfl, Nat.le_refl _, fun _ _ _ => rfl⟩
theorem Ch.trans (h : Ch e u v) (g : Ch e v w) : Ch e u w := ⟨g.os.trans h.os, g.tape.trans h.tape, g.output.trans h.output, Nat.le_trans h.size g.size, fun k hk hn => (g.block k (Nat.lt_of_lt_of_le hk h.size) hn).trans (h.block k hk hn)⟩
theorem Ch.bel (h : Ch e u v) (g : Bel v w) : Ch e u w := h.trans ⟨g.out.os, g.out.tape, g.out.output, g.out.size, fun k hk _ => g.out.block k hk⟩
theorem Ch.set (h : Ch e u v) {p : Addr} (hp : e p.block) (x : Value) : Ch e u (v.setCell p x) :=
 h.trans ⟨rfl, rfl, rfl, by simp [World.setCell], fun k _ hn => Below.heap_setCell _ _ _ _ (fun q => hn (q ▸ hp))⟩
theorem Ch.ap (h : Ch e u v) {x x' : Value} (g : Y3.Ap v w x x') (hx : ∀ k, x.ownBlock = some k → e k) : Ch e u w :=
 h.trans ⟨g.os, g.tape, g.output, g.size, fun k hk hn => g.same k hk (fun q => hn (hx k q))⟩
theorem Ch.blk {b : Nat} {t : TypeId} {cs : List Value} (h : Ch e u v) (K : Blk u b t cs) (hb : ¬ e b) : Blk v b t cs := ⟨by rw [h.block b K.lt hb]; exact K.out⟩
theorem Ch.toBel (h : Ch e u v) (g : Bel w u) (hb : ∀ k, k < w.heap.size → ¬ e k) : Bel w v :=
 ⟨g.out.trans ⟨h.os, h.tape, h.output, h.size, fun k hk => h.block k (Nat.lt_of_lt_of_le hk g.size) (hb k hk)⟩⟩
end
theorem kc2 {P : Program} {ops : Array Oper} {Q : Exit → Act → World → Prop} {md : Region.Mode} {S : World → Prop} {s : Nat} {i j : Nat} {o o' : Oper} {rest rest' : List Oper} {fuel : Nat} {listed : Array Bool} {a : Act} {w : World}
  (h : ∀ K' : Act → World → Prop, Shut (∀ a w, S w → (S w → I7.walkL P md ops Q S s fuel (listed.setIfInBounds i true) a w) → K' a w) → Oper.wp P o a w K' Q)
  (h' : ∀ K' : Act → World → Prop, Shut (∀ a w, S w → (S w → I7.walkL P md ops Q S s fuel (listed.setIfInBounds j true) a w) → K' a w) → Oper.wp P o' a w K' Q)
  (hr : Region.ready md ops listed = [i, j] := by kernel_rfl) (his : i < s := by decide) (hjs : j < s := by decide) (hi : ops.toList.drop i = o :: rest := by rfl) (hj : ops.toList.drop j = o' :: rest' := by rfl)
  (hw : Region.wanted o (yielded ops a.tmps) = true := by kernel_rfl) (hw' : Region.wanted o' (yielded ops a.tmps) = true := by kernel_rfl) : I7.walkL P md ops Q S s (fuel + 1) listed a w := fun hc =>
 ⟨fun h0 => (by rw [hr] at h0; cases h0), fun m hm => by
  have hm' := hm
  rw [hr] at hm'
  have e : m = i ∨ m = j := by simpa using hm'
  rcases e with rfl | rfl
  ·rw [if_neg (by omega)]
   exact wpOp_step (P := P) (ops := ops) (Q := Q) (i := m) (a := a) (w := w) (K := fun a' w' => S w' ∧ I7.wpAnyL P md ops Q S s fuel (listed.setIfInBounds m true) a' w') (ops_at hi) (fun K' hK => by
    rw [if_pos hw]; exact h K' (fun a w hS hW => hK a w ⟨hS, hW hS (I7.shut_step hc hm)⟩))
  ·rw [if_neg (by omega)]
   exact wpOp_step (P := P) (ops := ops) (Q := Q) (i := m) (a := a) (w := w) (K := fun a' w' => S w' ∧ I7.wpAnyL P md ops Q S s fuel (listed.setIfInBounds m true) a' w') (ops_at hj) (fun K' hK => by
    rw [if_pos hw']; exact h' K' (fun a w hS hW => hK a w ⟨hS, hW hS (I7.shut_step hc hm)⟩))⟩
structure Zz (B : Nat) (w : World) (bz : Nat) (X Y : List Nat) : Prop where
 out : ∃ v0 v1, Blk w bz 46 [v0, v1] ∧ Y3.Og w v0 X ∧ Y3.Og w v1 Y ∧ (∀ g, v0.ownBlock = some g → B ≤ g) ∧ (∀ g, v1.ownBlock = some g → B ≤ g ∧ v0.ownBlock ≠ some g)
def Cz (B bz : Nat) : World → World → Prop := Ch (fun k => k = bz ∨ B ≤ k)
theorem Zz.bel {B bz : Nat} {w w' : World} {X Y : List Nat} (h : Zz B w bz X Y) (g : Bel w w') : Zz B w' bz X Y := by
 obtain ⟨v0, v1, k, h0, h1, d0, d1⟩ := h.out
 exact ⟨v0, v1, k.bel g, h0.bel g, h1.bel g, d0, d1⟩
theorem dPutZ {B bz r s : Nat} {X Y : List Nat} (w : World) (Z : Zz B w bz X Y) (hB : B ≤ w.heap.size) (hz : bz < B) (hr : r < 2 * sgnW) (hs : s < 2 * sgnW) (hlX : X.length ≤ 100000) (hlY : Y.length ≤ 100000) :
  Calls Tryz.prog 36 #[.agg #[.float .f64 r, .float .f64 s], .pointer (some ⟨bz, 0, none⟩)] w fun e w' => e = .returned (.tuple #[]) ∧ Zz B w' bz (X ++ [cn r]) (Y ++ [cn s]) ∧ Cz B bz w w' := by
 obtain ⟨X2, hX2⟩ : ∃ L, L = X ++ [cn r] := ⟨_, rfl⟩
 obtain ⟨Y2, hY2⟩ : ∃ L, L = Y ++ [cn s] := ⟨_, rfl⟩
 rw [← hX2, ← hY2]
 have HX2 := Ho.mk hX2
 have HY2 := Ho.mk hY2
 clear hX2 hY2
 obtain ⟨v0, v1, k, h0, h1, d0, d1⟩ := Z.out
 obtain ⟨A0, c0, rfl⟩ := h0.slice
 obtain ⟨A1, c1, rfl⟩ := h1.slice
 have KX := Ho.mk (Blk.new w [.float .f64 r, .float .f64 s] 48)
 have ga := (Bel.refl w).alloc (.cells #[.float .f64 r, .float .f64 s] 48)
 have KZ := Ho.mk (k.bel ga)
 have HU := Ho.mk (h0.bel ga)
 have HV := Ho.mk (h1.bel ga)
 have CH := Ho.mk ((Ch.refl (fun k => k = bz ∨ B ≤ k) w).bel ga)
 have D0 := Ho.mk d0
 have D1 := Ho.mk d1
 have N0 := Ho.mk (show (Value.slice A0 X.length c0).ownBlock ≠ some w.heap.size from fun q => Nat.lt_irrefl _ (h0.lt q))
 have N1 := Ho.mk (show (Value.slice A1 Y.length c1).ownBlock ≠ some w.heap.size from fun q => Nat.lt_irrefl _ (h1.lt q))
 have L0 := Ho.mk (fun g (q : (Value.slice A0 X.length c0).ownBlock = some g) => Nat.lt_of_lt_of_le (h0.lt q) ga.size)
 have L1 := Ho.mk (fun g (q : (Value.slice A1 Y.length c1).ownBlock = some g) => Nat.lt_of_lt_of_le (h1.lt q) ga.size)
 have hBW := Nat.le_trans hB ga.size
 clear Z k h0 h1 d0 d1 ga
 go_enter Tryz.func36, Tryz.ntmps36
 go_upto_region 1 with fail
 obtain ⟨W, hW⟩ : ∃ W, W = w.alloc (.cells #[.float .f64 r, .float .f64 s] 48) := ⟨_, rfl⟩
 rw [← hW] at KX KZ HU HV CH L0 L1 hBW ⊢
 clear hW
 obtain ⟨bx, hbx⟩ : ∃ bx, bx = w.heap.size := ⟨_, rfl⟩
 rw [← hbx] at KX N0 N1 ⊢
 clear hbx hB
 refine I7.wp_region_late 13 (S := fun w' => Blk w' bz 46 [.slice A0 X.length c0, .slice A1 Y.length c1] ∧ Blk w' bx 48 [.float .f64 r, .float .f64 s]) (by kernel_rfl) ⟨KZ.out.bel (Bel.refl _).drew, KX.out.bel (Bel.refl _).drew⟩ (fun hHeld => ?_)
 (try dsimp only at hHeld)
 have HU := Ho.mk (HU.out.bel (Bel.refl W).drew)
 have HV := Ho.mk (HV.out.bel (Bel.refl W).drew)
 have CH := Ho.mk (CH.out.bel (Bel.refl W).drew)
 have lW : W.heap.size ≤ W.drew.heap.size := Nat.le_refl _
 clear KZ KX
 generalize W.drew = wx at *
 have n0 := trivial
 repeat' (first
  |
   clear t4
   go_simp
   refine hK.out _ _ ⟨hHeld.1.bel ((Bel.refl _).alloc _), hHeld.2.bel ((Bel.refl _).alloc _)⟩ (fun hHeld => ?_)
   clear hK K
   have KA := Ho.mk (Blk.new wx [.float .f64 r] 22)
   have ga := (Bel.refl wx).alloc (.cells #[.float .f64 r] 22)
   have le_pA := lW
   replace lW := Nat.le_trans lW ga.size
   replace HU := Ho.mk (HU.out.bel ga)
   replace HV := Ho.mk (HV.out.bel ga)
   replace CH := Ho.mk (CH.out.bel ga)
   try replace KB := Ho.mk (KB.out.bel ga)
   clear ga
   generalize wx.heap.size = pA at *
   generalize World.alloc wx (.cells #[.float .f64 r] 22) = wx at *
   try simp only [Act.put, Ow.zS, Ow.zC, Ow.zD]
  |
   clear t5
   have z9 := KA.out.cell (i := 0) rfl
   refine wp_appF _ _ rfl HU.out rfl rfl z9 hr hlX ?_
   intro v' w' ho he hb hat
   rw [← HX2.out] at ho
   obtain ⟨tA, tc, rfl⟩ := ho.slice
   obtain ⟨v', hv⟩ : ∃ v', v' = Value.slice tA X2.length tc := ⟨_, rfl⟩
   rw [← hv] at ho hat
   have HV0 := Ho.mk hv
   clear hv
   have ha : Y3.Ap wx w' _ v' := ⟨he.1, he.2.1, he.2.2.1, he.2.2.2, fun k hk hn => (hb k hk).elim id (fun q => (hn q.1).elim), hat⟩
   clear he hb z9
   have O0 : Ho (∀ g, v'.ownBlock = some g → B ≤ g ∧ (Value.slice A1 Y.length c1).ownBlock ≠ some g) := ⟨fun g hg => by
    rcases hat with q | q
    ·rw [q] at hg; exact ⟨D0.out g hg, fun q2 => (D1.out g q2).2 hg⟩
    ·rw [q] at hg; cases hg; exact ⟨Nat.le_trans hBW lW, fun q2 => by have := L1.out _ q2; omega⟩⟩
   have nz : (Value.slice A0 X.length c0).ownBlock ≠ some bz := fun q => by have := D0.out _ q; omega
   have nx : (Value.slice A0 X.length c0).ownBlock ≠ some bx := N0.out
   refine hK.out _ _ ⟨ha.blk hHeld.1 nz, ha.blk hHeld.2 nx⟩ (fun hHeld => ?_)
   clear hK K nz nx
   replace CH := Ho.mk (CH.out.ap ha (fun k q => Or.inr (D0.out k q)))
   replace lW := Nat.le_trans lW ha.size
   replace HV := Ho.mk (ha.og HV.out (fun g q q2 => (D1.out g q).2 q2))
   clear HU
   have HU := Ho.mk ho
   try replace KB := Ho.mk (ha.blk KB.out (fun q => by have := L0.out _ q; omega))
   clear KA ha hat ho
   rw [HV0.out] at HU O0
   clear HV0
   obtain ⟨wx, rfl⟩ : ∃ wy, wy = w' := ⟨_, rfl⟩
   try simp only [Act.put, Ow.zS, Ow.zC, Ow.zD]
  |
   clear t10
   go_simp
   refine hK.out _ _ ⟨hHeld.1.bel ((Bel.refl _).alloc _), hHeld.2.bel ((Bel.refl _).alloc _)⟩ (fun hHeld => ?_)
   clear hK K
   have KB := Ho.mk (Blk.new wx [.float .f64 s] 22)
   have ga := (Bel.refl wx).alloc (.cells #[.float .f64 s] 22)
   have le_pB := lW
   replace lW := Nat.le_trans lW ga.size
   replace HU := Ho.mk (HU.out.bel ga)
   replace HV := Ho.mk (HV.out.bel ga)
   replace CH := Ho.mk (CH.out.bel ga)
   try replace KA := Ho.mk (KA.out.bel ga)
   clear ga
   generalize wx.heap.size = pB at *
   generalize World.alloc wx (.cells #[.float .f64 s] 22) = wx at *
   try simp only [Act.put, Ow.zS, Ow.zC, Ow.zD]
  |
   clear t11
   have z9 := KB.out.cell (i := 0) rfl
   refine wp_appF _ _ rfl HV.out rfl rfl z9 hs hlY ?_
   intro v' w' ho he hb hat
   rw [← HY2.out] at ho
   obtain ⟨uA, uc, rfl⟩ := ho.slice
   obtain ⟨v', hv⟩ : ∃ v', v' = Value.slice uA Y2.length uc := ⟨_, rfl⟩
   rw [← hv] at ho hat
   have HV0 := Ho.mk hv
   clear hv
   have ha : Y3.Ap wx w' _ v' := ⟨he.1, he.2.1, he.2.2.1, he.2.2.2, fun k hk hn => (hb k hk).elim id (fun q => (hn q.1).elim), hat⟩
   clear he hb z9
   have O1 : Ho (∀ g, v'.ownBlock = some g → B ≤ g ∧ (Value.slice tA X2.length tc).ownBlock ≠ some g) := ⟨fun g hg => by
    rcases hat with q | q
    ·rw [q] at hg; exact ⟨(D1.out g hg).1, fun q2 => (O0.out g q2).2 hg⟩
    ·rw [q] at hg; cases hg; exact ⟨Nat.le_trans hBW lW, fun q2 => by have := HU.out.lt q2; omega⟩⟩
   have nz : (Value.slice A1 Y.length c1).ownBlock ≠ some bz := fun q => by have := (D1.out _ q).1; omega
   have nx : (Value.slice A1 Y.length c1).ownBlock ≠ some bx := N1.out
   refine hK.out _ _ ⟨ha.blk hHeld.1 nz, ha.blk hHeld.2 nx⟩ (fun hHeld => ?_)
   clear hK K nz nx
   replace CH := Ho.mk (CH.out.ap ha (fun k q => Or.inr ((D1.out k q).1)))
   replace lW := Nat.le_trans lW ha.size
   replace HU := Ho.mk (ha.og HU.out (fun g q q2 => (O0.out g q).2 q2))
   clear HV
   have HV := Ho.mk ho
   clear KB ha hat ho
   rw [HV0.out] at HV O1
   clear HV0
   obtain ⟨wx, rfl⟩ : ∃ wy, wy = w' := ⟨_, rfl⟩
   try simp only [Act.put, Ow.zS, Ow.zC, Ow.zD]
  |
   clear n7
   have n99 := trivial
   rotate_left
  |
   clear n5
   refine I7.kc (i := 11) (fun K hK => have t11 := trivial; have n7 := trivial; ?_)
  |
   clear n6
   refine I7.kt (i := 12) hHeld ?_
   try simp only [Act.put, Ow.zS, Ow.zC, Ow.zD]
   refine I7.kc (i := 11) (fun K hK => have t11 := trivial; have n7 := trivial; ?_)
  |
   clear n3
   refine I7.kt (i := 12) hHeld ?_
   try simp only [Act.put, Ow.zS, Ow.zC, Ow.zD]
   refine I7.kc (i := 10) (fun K hK => have t10 := trivial; have n5 := trivial; ?_)
  |
   clear n4
   refine I7.kc (i := 5) (fun K hK => have t5 := trivial; have n6 := trivial; ?_)
  |
   clear n1
   refine kc2 (i := 5) (j := 10) (fun K hK => have t5 := trivial; have n3 := trivial; ?_) (fun K hK => have t10 := trivial; have n4 := trivial; ?_)
  |
   clear n2
   refine I7.kc (i := 4) (fun K hK => have t4 := trivial; have n4 := trivial; ?_)
  |
   clear n0
   refine I7.kt (i := 0) hHeld ?_
   refine I7.kl (i := 1) (v := ?_) hHeld (fun w hSw => ?_) ?_
   rotate_left
   ·(have z0 := hSw.1.cell (i := 0) rfl; go_simp; try (with_reducible rfl))
   refine I7.kt (i := 2) hHeld ?_
   refine I7.kl (i := 3) (v := ?_) hHeld (fun w hSw => ?_) ?_
   rotate_left
   ·(have z0 := hSw.2.cell (i := 0) rfl; go_simp; try (with_reducible rfl))
   refine I7.kt (i := 6) hHeld ?_
   refine I7.kl (i := 7) (v := ?_) hHeld (fun w hSw => ?_) ?_
   rotate_left
   ·(have z0 := hSw.1.cell (i := 1) rfl; go_simp; try (with_reducible rfl))
   refine I7.kt (i := 8) hHeld ?_
   refine I7.kl (i := 9) (v := ?_) hHeld (fun w hSw => ?_) ?_
   rotate_left
   ·(have z0 := hSw.2.cell (i := 1) rfl; go_simp; try (with_reducible rfl))
   try simp only [Act.put, Ow.zS, Ow.zC, Ow.zD]
   refine kc2 (i := 4) (j := 10) (fun K hK => have t4 := trivial; have n1 := trivial; ?_) (fun K hK => have t10 := trivial; have n2 := trivial; ?_))
 all_goals
  have y0 := hHeld.1.cell (i := 0) rfl
  have x0 := hHeld.1.free 0
  refine I7.ke (i := 13) (fun K hK => ?_)
  go_simp
  have KZ := Ho.mk (hHeld.1.set 0 (.slice tA X2.length tc))
  simp only [List.set_cons_zero] at KZ
  have FU := Ho.mk (HU.out.far (p := ⟨bz, 0, none⟩) (fun q => by have := (O0.out _ q).1; dsimp only at this; omega) (.slice tA X2.length tc))
  have FV := Ho.mk (HV.out.far (p := ⟨bz, 0, none⟩) (fun q => by have := (O1.out _ q).1; dsimp only at this; omega) (.slice tA X2.length tc))
  have FC := Ho.mk (CH.out.set (p := ⟨bz, 0, none⟩) (Or.inl rfl) (.slice tA X2.length tc))
  refine hK.out _ _ ?_
  clear hK K y0 x0 HU HV CH hHeld
  generalize World.setCell wx ⟨bz, 0, none⟩ (.slice tA X2.length tc) = wy at *
  try simp only [Act.put, Ow.zS, Ow.zC, Ow.zD]
  have y1 := KZ.out.cell (i := 1) rfl
  have x1 := KZ.out.free 1
  refine I7.ke2 (i := 14) (fun K hK => ?_)
  go_simp
  refine hK.out _ _ ?_
  clear hK K
  try simp only [Act.put, Ow.zS, Ow.zC, Ow.zD]
  refine I7.ke2 (i := 15) (fun K hK => ?_)
  go_simp
  refine hK.out _ _ ?_
  clear hK K
  try simp only [Act.put, Ow.zS, Ow.zC, Ow.zD]
  refine wpAny_done (by kernel_rfl) ?_ _
  have KF := KZ.out.set 1 (.slice uA Y2.length uc)
  simp only [List.set_cons_zero, List.set_cons_succ] at KF
  have GU := FU.out.far (p := ⟨bz, 1, none⟩) (fun q => by have := (O0.out _ q).1; dsimp only at this; omega) (.slice uA Y2.length uc)
  have GV := FV.out.far (p := ⟨bz, 1, none⟩) (fun q => by have := (O1.out _ q).1; dsimp only at this; omega) (.slice uA Y2.length uc)
  have GC := FC.out.set (p := ⟨bz, 1, none⟩) (Or.inl rfl) (.slice uA Y2.length uc)
  have RES := Ho.mk (And.intro (Zz.mk ⟨_, _, KF, GU, GV, fun g q => (O0.out g q).1, O1.out⟩) GC)
  clear KF GU GV GC y1 x1 KZ
  go_end0
  exact ⟨rfl, RES.out.1, RES.out.2⟩
end K1
namespace K3
open Ieee Go Go.RowKit Go.Proofs Go.Proofs.YtalbgklfhabnkaaGreatDoor Ow Dt Gp I0 U0 W0 S4 S6 P0 M0 M1 M3 W4 W5 V2 P4 Y3 Yh P0 Z1 K1
open Go.Proofs.YtalbgklfhabnkaaGreatDoor.V1 (NI St ni_same ni_loop St.refl St.of_bel blk_keep ni_blk put_st)
open Go.Proofs.YtalbgklfhabnkaaGreatDoor.C6 (leaveAny)
open Go.Proofs.YtalbgklfhabnkaaGreatDoor.Pg (In)
open Go.Maps
open Go.Proofs.YtalbgklfhabnkaaGreatDoor.S2 (pairD RP rp_mk rp_inv pairD_inj gr_of)
attribute [local go_sem ↓] Go.wp_at_zero Go.wp_at_succ
theorem keyed : Keyed Tryz.prog 9 := string_keyed (by kernel_rfl)
theorem undM : Tryz.prog.underlying 56 = some (.map 9 48) := by kernel_rfl
theorem zeroN (w : World) : (zeroValue 48).run Tryz.prog w = .ok (.agg #[.float .f64 0, .float .f64 0]) w := by kernel_rfl
noncomputable def klE : Lit := (keyOf Tryz.prog 9 (.string { data := #[101, 118, 101, 110] })).getD (.bool false)
noncomputable def klO : Lit := (keyOf Tryz.prog 9 (.string { data := #[111, 100, 100] })).getD (.bool false)
theorem someE : (keyOf Tryz.prog 9 (.string { data := #[101, 118, 101, 110] })).isSome = true := by decide +kernel
theorem someO : (keyOf Tryz.prog 9 (.string { data := #[111, 100, 100] })).isSome = true := by decide +kernel
theorem get_some {α : Type} {o : Option α} {d : α} (h : o.isSome = true) : o = some (o.getD d) := by cases o <;> simp_all
theorem keyE : keyOf Tryz.prog 9 (.string { data := #[101, 118, 101, 110] }) = some klE := get_some someE
theorem keyO : keyOf Tryz.prog 9 (.string { data := #[111, 100, 100] }) = some klO := get_some someO
theorem ne_key : klE ≠ klO := fun e => by
 have k := keyO
 rw [← e] at k
 have := keyed.inj keyE k
 simp at this
structure Ms (w : World) (b n : Nat) (E O : Option (Nat × Nat)) : Prop where
 out : ∃ D : DataW Unit, w.ownsMap Tryz.prog 9 RP b n D ∧ IsMap D ∧ (∀ p, E = some p → ∀ z, D.atKey klE z = pairD p.1 p.2) ∧ ∀ p, O = some p → ∀ z, D.atKey klO z = pairD p.1 p.2
section
variable {w w' : World} {b n : Nat} {E O : Option (Nat × Nat)} {r s : Nat}
theorem Ms.bel (h : Ms w b n E O) (g : Bel w w') : Ms w' b n E O := by
 obtain ⟨D, h1, h2⟩ := h.out
 refine ⟨D, ?_, h2⟩
 obtain ⟨es, clock, hb, F, hs, hD⟩ := h1
 exact ⟨es, clock, (g.out.block b (Array.getElem?_eq_some_iff.1 hb).1).trans hb, F, hs, hD⟩
theorem Ms.made (w : World) : Ms (w.alloc (.map #[] 0)) w.heap.size 0 none none :=
 ⟨.map [], World.ownsMap_made _ _ _ _, isMap_empty, fun p h => (by cases h), fun p h => (by cases h)⟩
theorem look1 {key : Value} {kl : Lit} (hk : keyOf Tryz.prog 9 key = some kl) {D : DataW Unit} (h1 : w.ownsMap Tryz.prog 9 RP b n D) (h : ∀ z, D.atKey kl z = pairD r s) :
  (Instr.lookup 56 (.map (some b)) key false).run Tryz.prog w = .ok (.agg #[.float .f64 r, .float .f64 s]) w := by
 obtain ⟨v, ps, hr, hv⟩ := h1.lookup keyed undM (zeroN w) (rp_mk 0 0) hk
 obtain ⟨a, c, rfl, e⟩ := rp_inv hv
 rw [h] at e
 obtain ⟨rfl, rfl⟩ := pairD_inj e
 exact hr
theorem Ms.even (h : Ms w b n (some (r, s)) O) : (Instr.lookup 56 (.map (some b)) (.string { data := #[101, 118, 101, 110] }) false).run Tryz.prog w = .ok (.agg #[.float .f64 r, .float .f64 s]) w := by
 obtain ⟨D, h1, _, h2, _⟩ := h.out
 exact look1 keyE h1 (h2 _ rfl)
theorem Ms.odd (h : Ms w b n E (some (r, s))) : (Instr.lookup 56 (.map (some b)) (.string { data := #[111, 100, 100] }) false).run Tryz.prog w = .ok (.agg #[.float .f64 r, .float .f64 s]) w := by
 obtain ⟨D, h1, _, _, h2⟩ := h.out
 exact look1 keyO h1 (h2 _ rfl)
variable {o : Oper} {a : Act} {K : Act → World → Prop} {Q : Exit → Act → World → Prop}
theorem wp_insE (m x v : Operand) (hop : o.op = Op.insert 56 m x v) (M : Ms w b n E O) (hn : n < 1000) (hm : a.eval m = .map (some b)) (hx : a.eval x = (.string { data := #[101, 118, 101, 110] })) (hv : a.eval v = .agg #[.float .f64 r, .float .f64 s])
  (h : ∀ w', Ms w' b (n + 1) (some (r, s)) O → Gr b w w' → K (a.put o.dst undef) w') : o.wp Tryz.prog a w K Q := by
 obtain ⟨D, d1, d2, d3, d4⟩ := M.out
 obtain ⟨w', hrun, o1, o2⟩ := d1.update keyed undM (by simp only [maxLen]; omega) keyE (rp_mk r s)
 unfold Oper.wp
 simp [execOp, hop, hm, hx, hv, hrun, Result.andThen]
 exact h w' ⟨_, o1, d2.put _ _, fun p hp z => by cases hp; exact atKey_put_same d2 (keyed.key keyE) _ z, fun p hp z => by rw [atKey_put_other (fun e => ne_key e.symm)]; exact d4 p hp z⟩ (gr_of o2)
theorem wp_insO (m x v : Operand) (hop : o.op = Op.insert 56 m x v) (M : Ms w b n E O) (hn : n < 1000) (hm : a.eval m = .map (some b)) (hx : a.eval x = (.string { data := #[111, 100, 100] })) (hv : a.eval v = .agg #[.float .f64 r, .float .f64 s])
  (h : ∀ w', Ms w' b (n + 1) E (some (r, s)) → Gr b w w' → K (a.put o.dst undef) w') : o.wp Tryz.prog a w K Q := by
 obtain ⟨D, d1, d2, d3, d4⟩ := M.out
 obtain ⟨w', hrun, o1, o2⟩ := d1.update keyed undM (by simp only [maxLen]; omega) keyO (rp_mk r s)
 unfold Oper.wp
 simp [execOp, hop, hm, hx, hv, hrun, Result.andThen]
 exact h w' ⟨_, o1, d2.put _ _, fun p hp z => by rw [atKey_put_other ne_key]; exact d3 p hp z, fun p hp z => by cases hp; exact atKey_put_same d2 (keyed.key keyO) _ z⟩ (gr_of o2)
end
def MadeOf (w : World) (a0 a1 b0 b1 : Nat) (e : Ending) (w' : World) : Prop := ∃ m n r s t u, e = .returned (.map (some m)) ∧ Ms w' m n (some (r, s)) (some (t, u)) ∧ ((r < 2 * sgnW ∧ s < 2 * sgnW) ∧ (t < 2 * sgnW ∧ u < 2 * sgnW)) ∧
 ((cn r = hlf M3.opsN (fadd a0 b0) ∧ cn s = hlf M3.opsN (fsub a1 b1)) ∧ (cn t = hlf M3.opsN (fsub a0 b0) ∧ cn u = hlf M3.opsN (fadd a1 b1))) ∧ Bel w w'
theorem dMade {a0 a1 b0 b1 : Nat} (w : World) (ha0 : a0 < 2 * sgnW) (ha1 : a1 < 2 * sgnW) (hb0 : b0 < 2 * sgnW) (hb1 : b1 < 2 * sgnW) :
  Calls Tryz.prog 43 #[.agg #[.float .f64 a0, .float .f64 a1], .agg #[.float .f64 b0, .float .f64 b1]] w (MadeOf w (cn a0) (cn a1) (cn b0) (cn b1)) := by
 have F5 := Ho.mk (fun w => P0.dOAdd w ha0 hb0)
 have F10 := Ho.mk (fun w => P0.dOSub w ha1 hb1)
 have F17 := Ho.mk (fun w => P0.dOSub w ha0 hb0)
 have F22 := Ho.mk (fun w => P0.dOAdd w ha1 hb1)
 have KA := Ho.mk ((Blk.new w [.float .f64 a0, .float .f64 a1] 48).old (.cells #[.float .f64 b0, .float .f64 b1] 48))
 have KB := Ho.mk (Blk.new (w.alloc (.cells #[.float .f64 a0, .float .f64 a1] 48)) [.float .f64 b0, .float .f64 b1] 48)
 rw [World.size_alloc] at KB
 have g0 := Ho.mk (((Bel.refl w).alloc (.cells #[.float .f64 a0, .float .f64 a1] 48)).alloc (.cells #[.float .f64 b0, .float .f64 b1] 48))
 clear ha0 ha1 hb0 hb1
 go_enter Tryz.func43, Tryz.ntmps43
 go_upto_region 1 with fail
 generalize (w.alloc (.cells #[.float .f64 a0, .float .f64 a1] 48)).alloc (.cells #[.float .f64 b0, .float .f64 b1] 48) = W at *
 obtain ⟨ya0, ya1⟩ := KA.out.c2
 obtain ⟨yb0, yb1⟩ := KB.out.c2
 refine wp_region_held_drew (S := fun w' => Bel W w') (by kernel_rfl) (Bel.refl _).drew (fun hHeld => ?_)
 (try dsimp only at hHeld)
 generalize W.drew = wx at *
 have n0 := trivial
 repeat' (first
  |
   clear t0
   go_simp
   have le_bm := hHeld.size
   refine hK.out _ _ (Bel.alloc hHeld _) (fun hHeld => ?_)
   clear hK K
   have M := Ho.mk (Ms.made wx)
   have ga := (Bel.refl wx).alloc (.map #[] 0)
   clear ga
   generalize wx.heap.size = bm at *
   generalize World.alloc wx (.map #[] 0) = wx at *
   try simp only [Act.put, Ow.zS, Ow.zC, Ow.zD]
  |
   clear t5
   go_simp
   go_at_call 41
   (with_reducible refine (F5.out _).mono ?_); rintro e wx ⟨r5, rfl, l5, c5, bwx⟩
   try go_wp2_with fail
   refine hK.out _ _ (Bel.trans hHeld bwx) (fun hHeld => ?_)
   clear hK K
   try have M := Ho.mk (M.out.bel bwx)
   clear bwx
   try simp only [Act.put, Ow.zS, Ow.zC, Ow.zD]
  |
   clear t10
   go_simp
   go_at_call 42
   (with_reducible refine (F10.out _).mono ?_); rintro e wx ⟨r10, rfl, l10, c10, bwx⟩
   try go_wp2_with fail
   refine hK.out _ _ (Bel.trans hHeld bwx) (fun hHeld => ?_)
   clear hK K
   try have M := Ho.mk (M.out.bel bwx)
   clear bwx
   try simp only [Act.put, Ow.zS, Ow.zC, Ow.zD]
  |
   clear t11
   go_simp
   go_at_call 40
   (with_reducible refine (dHalved _ l5 l10).mono ?_); rintro e wx ⟨r11, s11, rfl, l11, c11, bwx⟩
   try go_wp2_with fail
   refine hK.out _ _ (Bel.trans hHeld bwx) (fun hHeld => ?_)
   clear hK K
   try have M := Ho.mk (M.out.bel bwx)
   clear bwx
   try simp only [Act.put, Ow.zS, Ow.zC, Ow.zD]
  |
   clear t12
   refine wp_insE _ _ _ rfl M.out (by omega) rfl rfl rfl ?_
   intro w' m' g'
   refine hK.out _ _ (g'.bel hHeld le_bm) (fun hHeld => ?_)
   clear hK K M
   have M := Ho.mk m'
   clear m' g'
   obtain ⟨wx, rfl⟩ : ∃ wy, wy = w' := ⟨_, rfl⟩
   try simp only [Act.put, Ow.zS, Ow.zC, Ow.zD]
  |
   clear t17
   go_simp
   go_at_call 42
   (with_reducible refine (F17.out _).mono ?_); rintro e wx ⟨r17, rfl, l17, c17, bwx⟩
   try go_wp2_with fail
   refine hK.out _ _ (Bel.trans hHeld bwx) (fun hHeld => ?_)
   clear hK K
   try have M := Ho.mk (M.out.bel bwx)
   clear bwx
   try simp only [Act.put, Ow.zS, Ow.zC, Ow.zD]
  |
   clear t22
   go_simp
   go_at_call 41
   (with_reducible refine (F22.out _).mono ?_); rintro e wx ⟨r22, rfl, l22, c22, bwx⟩
   try go_wp2_with fail
   refine hK.out _ _ (Bel.trans hHeld bwx) (fun hHeld => ?_)
   clear hK K
   try have M := Ho.mk (M.out.bel bwx)
   clear bwx
   try simp only [Act.put, Ow.zS, Ow.zC, Ow.zD]
  |
   clear t23
   go_simp
   go_at_call 40
   (with_reducible refine (dHalved _ l17 l22).mono ?_); rintro e wx ⟨r23, s23, rfl, l23, c23, bwx⟩
   try go_wp2_with fail
   refine hK.out _ _ (Bel.trans hHeld bwx) (fun hHeld => ?_)
   clear hK K
   try have M := Ho.mk (M.out.bel bwx)
   clear bwx
   try simp only [Act.put, Ow.zS, Ow.zC, Ow.zD]
  |
   clear t24
   refine wp_insO _ _ _ rfl M.out (by omega) rfl rfl rfl ?_
   intro w' m' g'
   refine hK.out _ _ (g'.bel hHeld le_bm) (fun hHeld => ?_)
   clear hK K M
   have M := Ho.mk m'
   clear m' g'
   obtain ⟨wx, rfl⟩ : ∃ wy, wy = w' := ⟨_, rfl⟩
   try simp only [Act.put, Ow.zS, Ow.zC, Ow.zD]
  |
   clear n19
   refine rt (i := 25) hHeld ?_
   refine rt (i := 26) hHeld ?_
   try simp only [Act.put, Ow.zS, Ow.zC, Ow.zD]
   refine wpAnyH_done (by kernel_rfl) ?_ _
  |
   clear n17
   refine rc (i := 24) (fun K hK => have t24 := trivial; have n19 := trivial; ?_)
  |
   clear n18
   refine rc (i := 12) (fun K hK => have t12 := trivial; have n19 := trivial; ?_)
  |
   clear n15
   refine rc (i := 23) (fun K hK => have t23 := trivial; have n17 := trivial; ?_)
  |
   clear n16
   refine I6.rc2 (i := 12) (j := 24) (fun K hK => have t12 := trivial; have n17 := trivial; ?_) (fun K hK => have t24 := trivial; have n18 := trivial; ?_)
  |
   clear n12
   refine rc (i := 22) (fun K hK => have t22 := trivial; have n15 := trivial; ?_)
  |
   clear n13
   refine I6.rc2 (i := 12) (j := 23) (fun K hK => have t12 := trivial; have n15 := trivial; ?_) (fun K hK => have t23 := trivial; have n16 := trivial; ?_)
  |
   clear n14
   refine rc (i := 0) (fun K hK => have t0 := trivial; have n16 := trivial; ?_)
  |
   clear n9
   refine rc (i := 17) (fun K hK => have t17 := trivial; have n12 := trivial; ?_)
  |
   clear n10
   refine I6.rc2 (i := 12) (j := 22) (fun K hK => have t12 := trivial; have n12 := trivial; ?_) (fun K hK => have t22 := trivial; have n13 := trivial; ?_)
  |
   clear n11
   refine I6.rc2 (i := 0) (j := 23) (fun K hK => have t0 := trivial; have n13 := trivial; ?_) (fun K hK => have t23 := trivial; have n14 := trivial; ?_)
  |
   clear n7
   refine I6.rc2 (i := 12) (j := 17) (fun K hK => have t12 := trivial; have n9 := trivial; ?_) (fun K hK => have t17 := trivial; have n10 := trivial; ?_)
  |
   clear n8
   refine I6.rc2 (i := 0) (j := 22) (fun K hK => have t0 := trivial; have n10 := trivial; ?_) (fun K hK => have t22 := trivial; have n11 := trivial; ?_)
  |
   clear n5
   refine rc (i := 11) (fun K hK => have t11 := trivial; have n7 := trivial; ?_)
  |
   clear n6
   refine I6.rc2 (i := 0) (j := 17) (fun K hK => have t0 := trivial; have n7 := trivial; ?_) (fun K hK => have t17 := trivial; have n8 := trivial; ?_)
  |
   clear n3
   refine rc (i := 10) (fun K hK => have t10 := trivial; have n5 := trivial; ?_)
  |
   clear n4
   refine I6.rc2 (i := 0) (j := 11) (fun K hK => have t0 := trivial; have n5 := trivial; ?_) (fun K hK => have t11 := trivial; have n6 := trivial; ?_)
  |
   clear n1
   refine rc (i := 5) (fun K hK => have t5 := trivial; have n3 := trivial; ?_)
  |
   clear n2
   refine I6.rc2 (i := 0) (j := 10) (fun K hK => have t0 := trivial; have n3 := trivial; ?_) (fun K hK => have t10 := trivial; have n4 := trivial; ?_)
  |
   clear n0
   refine rt (i := 1) hHeld ?_
   refine rl (i := 2) (v := ?_) hHeld (fun w hSw => ?_) ?_
   rotate_left
   ·(have z0 := hSw.cell ya0; go_simp; try (with_reducible rfl))
   refine rt (i := 3) hHeld ?_
   refine rl (i := 4) (v := ?_) hHeld (fun w hSw => ?_) ?_
   rotate_left
   ·(have z0 := hSw.cell yb0; go_simp; try (with_reducible rfl))
   refine rt (i := 6) hHeld ?_
   refine rl (i := 7) (v := ?_) hHeld (fun w hSw => ?_) ?_
   rotate_left
   ·(have z0 := hSw.cell ya1; go_simp; try (with_reducible rfl))
   refine rt (i := 8) hHeld ?_
   refine rl (i := 9) (v := ?_) hHeld (fun w hSw => ?_) ?_
   rotate_left
   ·(have z0 := hSw.cell yb1; go_simp; try (with_reducible rfl))
   refine rt (i := 13) hHeld ?_
   refine rl (i := 14) (v := ?_) hHeld (fun w hSw => ?_) ?_
   rotate_left
   ·(have z0 := hSw.cell ya0; go_simp; try (with_reducible rfl))
   refine rt (i := 15) hHeld ?_
   refine rl (i := 16) (v := ?_) hHeld (fun w hSw => ?_) ?_
   rotate_left
   ·(have z0 := hSw.cell yb0; go_simp; try (with_reducible rfl))
   refine rt (i := 18) hHeld ?_
   refine rl (i := 19) (v := ?_) hHeld (fun w hSw => ?_) ?_
   rotate_left
   ·(have z0 := hSw.cell ya1; go_simp; try (with_reducible rfl))
   refine rt (i := 20) hHeld ?_
   refine rl (i := 21) (v := ?_) hHeld (fun w hSw => ?_) ?_
   rotate_left
   ·(have z0 := hSw.cell yb1; go_simp; try (with_reducible rfl))
   try simp only [Act.put, Ow.zS, Ow.zC, Ow.zD]
   refine I6.rc2 (i := 0) (j := 5) (fun K hK => have t0 := trivial; have n1 := trivial; ?_) (fun K hK => have t5 := trivial; have n2 := trivial; ?_))
 all_goals
  go_wp2
  go_ret
  exact ⟨bm, _, _, _, _, _, rfl, M.out, ⟨l11, l23⟩, ⟨⟨by rw [c11.1, c5], by rw [c11.2, c10]⟩, by rw [c23.1, c17], by rw [c23.2, c22]⟩, g0.out.trans hHeld⟩
end K3
namespace M4
open M0 M1 M2
variable {α β : Type} (A : Ops α) (B : Ops β)
theorem cat_at {p i : Nat} (e o : List α × List α) (tw : Nat → Nat × Nat) (hi : i < 2 ^ (p + 1)) :
  (nthG A (mergeL A (2 ^ p) tw e o).1 i, nthG A (mergeL A (2 ^ p) tw e o).2 i) =
   if i < 2 ^ p then cadd A (nthG A e.1 i) (nthG A e.2 i) (tw1 A tw i (nthG A o.1 i) (nthG A o.2 i)).1 (tw1 A tw i (nthG A o.1 i) (nthG A o.2 i)).2
   else csub A (nthG A e.1 (i - 2 ^ p)) (nthG A e.2 (i - 2 ^ p)) (tw1 A tw (i - 2 ^ p) (nthG A o.1 (i - 2 ^ p)) (nthG A o.2 (i - 2 ^ p))).1 (tw1 A tw (i - 2 ^ p) (nthG A o.1 (i - 2 ^ p)) (nthG A o.2 (i - 2 ^ p))).2 := by
 rw [Nat.pow_succ] at hi
 simp only [mergeL, appP, nthG_app, List.length_map, List.length_range]
 split
 ·rename_i h; rw [nthG_map _ _ h, nthG_map _ _ h]; rfl
 ·rename_i h; rw [nthG_map _ _ (by omega), nthG_map _ _ (by omega)]; rfl
theorem rec_rel (T : Nat → α × α → β × β → Prop) (tw tw' : Nat → Nat → Nat × Nat) {P : Nat}
  (hm : ∀ q k e o e' o', q < P → k < 2 ^ q → T q e e' → T q o o' →
   T (q + 1) (cadd A e.1 e.2 (tw1 A (tw q) k o.1 o.2).1 (tw1 A (tw q) k o.1 o.2).2) (cadd B e'.1 e'.2 (tw1 B (tw' q) k o'.1 o'.2).1 (tw1 B (tw' q) k o'.1 o'.2).2) ∧
   T (q + 1) (csub A e.1 e.2 (tw1 A (tw q) k o.1 o.2).1 (tw1 A (tw q) k o.1 o.2).2) (csub B e'.1 e'.2 (tw1 B (tw' q) k o'.1 o'.2).1 (tw1 B (tw' q) k o'.1 o'.2).2))
  (p : Nat) (hp : p ≤ P) (st : List α × List α) (st' : List β × List β) (h1 : st.1.length = 2 ^ p) (h2 : st.2.length = 2 ^ p) (h3 : st'.1.length = 2 ^ p) (h4 : st'.2.length = 2 ^ p)
  (h : ∀ i, i < 2 ^ p → T 0 (nthG A st.1 i, nthG A st.2 i) (nthG B st'.1 i, nthG B st'.2 i)) :
  ∀ i, i < 2 ^ p → T p (nthG A (recG A tw p st).1 i, nthG A (recG A tw p st).2 i) (nthG B (recG B tw' p st').1 i, nthG B (recG B tw' p st').2 i) := by
 induction p generalizing st st' with
 | zero => exact h
 | succ p ih =>
  have e3 : 2 ^ (p + 1) = 2 ^ p + 2 ^ p := by rw [Nat.pow_succ]; omega
  have le : ∀ {γ : Type} (G : Ops γ) (l : List γ), l.length = 2 ^ (p + 1) → (evenG G l).length = 2 ^ p ∧ (oddG G l).length = 2 ^ p := fun G l hl => by
   rw [evenG_len, oddG_len]; omega
  have E := ih (by omega) (evenG A st.1, evenG A st.2) (evenG B st'.1, evenG B st'.2) (le A _ h1).1 (le A _ h2).1 (le B _ h3).1 (le B _ h4).1 (fun i hi => by
   have := h (2 * i) (by omega)
   rw [nthG_even _ _ (by omega), nthG_even _ _ (by omega), nthG_even _ _ (by omega), nthG_even _ _ (by omega)]; exact this)
  have O := ih (by omega) (oddG A st.1, oddG A st.2) (oddG B st'.1, oddG B st'.2) (le A _ h1).2 (le A _ h2).2 (le B _ h3).2 (le B _ h4).2 (fun i hi => by
   have := h (2 * i + 1) (by omega)
   rw [nthG_odd _ _ (by omega), nthG_odd _ _ (by omega), nthG_odd _ _ (by omega), nthG_odd _ _ (by omega)]; exact this)
  intro i hi
  show T (p + 1) (nthG A (mergeL A (2 ^ p) (tw p) _ _).1 i, nthG A (mergeL A (2 ^ p) (tw p) _ _).2 i) (nthG B (mergeL B (2 ^ p) (tw' p) _ _).1 i, nthG B (mergeL B (2 ^ p) (tw' p) _ _).2 i)
  rw [cat_at A _ _ _ hi, cat_at B _ _ _ hi]
  split
  ·rename_i c
   exact (hm p i _ _ _ _ (by omega) c (E i c) (O i c)).1
  ·rename_i c
   exact (hm p (i - 2 ^ p) _ _ _ _ (by omega) (by omega) (E _ (by omega)) (O _ (by omega))).2
end M4
namespace W3
open Ieee Go Gp Gq Gr W0 W1 W2
theorem rhe_scale (X d k : Nat) : rhe (X * 2 ^ k) (d + k) = rhe X d := by
 unfold rhe
 have hk := Nat.two_pow_pos k
 rw [Nat.pow_add, Nat.mul_div_mul_right _ _ hk, Nat.mul_mod_mul_right]
 have e1 : (2 ^ d * 2 ^ k < 2 * (X % 2 ^ d * 2 ^ k)) = (2 ^ d < 2 * (X % 2 ^ d)) := by
  rw [← Nat.mul_assoc]; exact propext (Nat.mul_lt_mul_right hk)
 have e2 : (2 ^ d * 2 ^ k = 2 * (X % 2 ^ d * 2 ^ k)) = (2 ^ d = 2 * (X % 2 ^ d)) := by
  rw [← Nat.mul_assoc]; exact propext (Nat.mul_right_cancel_iff hk)
 simp only [e1, e2]
theorem log2_53 {X : Nat} (h : 2 ^ 53 ≤ X) : 53 ≤ Nat.log2 X := by
 have : ¬ Nat.log2 X < 53 := fun q => by
  have := (Nat.log2_lt (by have := Nat.two_pow_pos 53; omega)).1 q
  omega
 omega
theorem rung_big {X : Nat} (h : 2 ^ 53 ≤ X) : rung X 0 = (Nat.log2 X - 52) * bn + rhe X (Nat.log2 X - 52) ∧ bn ≤ rhe X (Nat.log2 X - 52) ∧ rhe X (Nat.log2 X - 52) ≤ 2 * bn ∧ mag (rung X 0) = rhe X (Nat.log2 X - 52) * 2 ^ (Nat.log2 X - 52) := by
 have h0 : X ≠ 0 := by have := Nat.two_pow_pos 53; omega
 have hl := log2_53 h
 have e : rung X 0 = (Nat.log2 X - 52) * bn + rhe X (Nat.log2 X - 52) := by
  unfold rung; rw [if_neg h0, Nat.add_zero, Nat.zero_add]
 have lo := Nat.log2_self_le h0
 have hi := Nat.lt_log2_self (n := X)
 have hh := half_rhe X (Nat.log2 X - 52)
 have g1 : bn ≤ rhe X (Nat.log2 X - 52) := hh.ge (by
  rw [bn_eq, ← Nat.pow_add, show 52 + (Nat.log2 X - 52) = Nat.log2 X from by omega]; exact lo)
 have g2 : rhe X (Nat.log2 X - 52) ≤ 2 * bn := hh.le (by
  rw [bn_eq, ← Nat.pow_succ', ← Nat.pow_add, show 52 + 1 + (Nat.log2 X - 52) = Nat.log2 X + 1 from by omega]; exact Nat.le_of_lt hi)
 refine ⟨e, g1, g2, ?_⟩
 rw [e, mag_at _ _ g2 (.inr g1)]
theorem rung_mul {X k : Nat} (h : 2 ^ 53 ≤ X) : mag (rung (X * 2 ^ k) 0) = mag (rung X 0) * 2 ^ k := by
 have hk := Nat.two_pow_pos k
 have h' : 2 ^ 53 ≤ X * 2 ^ k := Nat.le_trans h (Nat.le_mul_of_pos_right _ hk)
 have h0 : X ≠ 0 := by have := Nat.two_pow_pos 53; omega
 have hl := log2_53 h
 rw [(rung_big h').2.2.2, (rung_big h).2.2.2, log2_shift _ _ h0, show Nat.log2 X + k - 52 = Nat.log2 X - 52 + k from by omega, rhe_scale, Nat.pow_add, Nat.mul_assoc]
theorem rung_dvd {X g : Nat} (h : 2 ^ 53 ≤ X) (hd : 2 ^ g ∣ X) : 2 ^ g ∣ mag (rung X 0) := by
 rw [(rung_big h).2.2.2]
 by_cases c : Nat.log2 X - 52 ≤ g
 ·-- exact
  obtain ⟨t, ht⟩ := hd
  have : X = t * 2 ^ (g - (Nat.log2 X - 52)) * 2 ^ (Nat.log2 X - 52) := by
   rw [Nat.mul_assoc, ← Nat.pow_add, show g - (Nat.log2 X - 52) + (Nat.log2 X - 52) = g from by omega, Nat.mul_comm]; exact ht
  have e : rhe X (Nat.log2 X - 52) * 2 ^ (Nat.log2 X - 52) = X := by
   generalize Nat.log2 X - 52 = d at *
   generalize t * 2 ^ (g - d) = y at *
   subst this
   have hh := half_rhe (y * 2 ^ d) d
   have a := hh.le (Nat.le_refl _)
   have b := hh.ge (Nat.le_refl _)
   rw [Nat.le_antisymm a b]
  rw [e]; exact ⟨t, ht⟩
 ·exact Nat.dvd_trans (Nat.pow_dvd_pow 2 (by omega)) (Nat.dvd_mul_left _ _)
theorem rung_pow {h e : Nat} (he : e = h - 51) (h1 : 52 ≤ h) : rung (2 ^ h) 0 = P2 e := by
 have := rung_exact (P2 e) 0
 rwa [Nat.pow_zero, Nat.mul_one, mag_P2 rfl (by omega), show 52 + (e - 1) = h from by omega] at this
theorem rung_top {X h : Nat} (hX : X ≤ 2 ^ h) (h1 : 52 ≤ h) (h2 : h ≤ 2097) : rung X 0 < infR ∧ mag (rung X 0) ≤ 2 ^ h := by
 have a := rung_mono (s := 0) hX
 rw [rung_pow rfl h1] at a
 refine ⟨Nat.lt_of_le_of_lt a (by unfold P2 infR bn; omega), ?_⟩
 have := mag_le.2 a
 rwa [mag_P2 rfl (by omega), show 52 + (h - 51 - 1) = h from by omega] at this
structure Gd (g h x : Nat) : Prop where
 nm : Nm x
 dvd : 2 ^ g ∣ (V x).natAbs
 bd : (V x).natAbs ≤ 2 ^ h
theorem Gd.mono {g h g' h' x : Nat} (H : Gd g h x) (a : g' ≤ g) (b : h ≤ h') : Gd g' h' x :=
 ⟨H.nm, Nat.dvd_trans (Nat.pow_dvd_pow 2 a) H.dvd, Nat.le_trans H.bd (Nat.pow_le_pow_right (by decide) b)⟩
theorem gd_zero (g h : Nat) : Gd g h 0 := ⟨nm_zero, by rw [show V 0 = 0 from by decide]; exact Nat.dvd_zero _, by rw [show V 0 = 0 from by decide]; exact Nat.zero_le _⟩
structure Sc (n : Bool) (k g h x y : Nat) : Prop where
 gd : Gd g h x
 nm : Nm y
 v : V y = (if n then -1 else 1) * (V x * 2 ^ k)
theorem Sc.mono {n : Bool} {k g h g' h' x y : Nat} (H : Sc n k g h x y) (a : g' ≤ g) (b : h ≤ h') : Sc n k g' h' x y := ⟨H.gd.mono a b, H.nm, H.v⟩
theorem sc_zero (n : Bool) (k g h : Nat) : Sc n k g h 0 0 := ⟨gd_zero g h, nm_zero, by rw [show V 0 = 0 from by decide]; simp⟩
theorem big_of {v : Int} {g : Nat} (hg : 53 ≤ g) (hd : 2 ^ g ∣ v.natAbs) (h0 : v ≠ 0) : 2 ^ 53 ≤ v.natAbs := by
 have : 2 ^ g ≤ v.natAbs := Nat.le_of_dvd (by omega) hd
 exact Nat.le_trans (Nat.pow_le_pow_right (by decide) hg) this
theorem R_sc (n : Bool) {v w : Int} {k g h : Nat} (hg : 53 ≤ g) (h1 : 52 ≤ h) (h2 : h + k ≤ 2097) (hd : 2 ^ g ∣ v.natAbs) (hb : v.natAbs ≤ 2 ^ h) (hw : w = (if n then -1 else 1) * (v * 2 ^ k)) :
  Sc n k g h (R v 0) (R w 0) := by
 have hwa : w.natAbs = v.natAbs * 2 ^ k := by
  rw [hw, Int.natAbs_mul, Int.natAbs_mul, show ((2 : Int) ^ k).natAbs = 2 ^ k from by rw [Int.natAbs_pow]; rfl]
  cases n <;> simp
 by_cases h0 : v = 0
 ·subst h0
  have : w = 0 := by rw [hw]; simp
  subst this
  rw [R_zero]; exact sc_zero _ _ _ _
 ·have hbig := big_of hg hd h0
  have t1 := rung_top hb h1 (by omega)
  have hb2 : w.natAbs ≤ 2 ^ (h + k) := by rw [hwa, Nat.pow_add]; exact Nat.mul_le_mul_right _ hb
  have t2 := rung_top hb2 (by omega) h2
  have e1 : V (R v 0) = sv (decide (v < 0)) (mag (rung v.natAbs 0)) := by rw [V_R, Nat.min_eq_left (Nat.le_of_lt t1.1)]
  have e2 : V (R w 0) = sv (decide (w < 0)) (mag (rung v.natAbs 0) * 2 ^ k) := by
   rw [V_R, Nat.min_eq_left (Nat.le_of_lt t2.1), hwa, rung_mul hbig]
  refine ⟨⟨R_nm t1.1, ?_, ?_⟩, R_nm t2.1, ?_⟩
  ·rw [e1, sv_abs]; exact rung_dvd hbig hd
  ·rw [e1, sv_abs]; exact t1.2
  ·rw [e2, e1, ← sv_pow]
   have hpos : (0 : Int) < 2 ^ k := Int.pow_pos (by decide)
   have hs : decide (w < 0) = (decide (v < 0) ^^ n) := by
    rw [hw]
    have hlt : v * 2 ^ k < 0 ↔ v < 0 := ⟨fun q => by
     by_cases c : v < 0
     ·exact c
     ·have := Int.mul_nonneg (show 0 ≤ v by omega) (Int.le_of_lt hpos); omega, fun q => Int.mul_neg_of_neg_of_pos q hpos⟩
    have hne : v * 2 ^ k ≠ 0 := Int.mul_ne_zero h0 (Int.ne_of_gt hpos)
    cases n
    ·simp [hlt]
    ·have : (-1 * (v * 2 ^ k) < 0) ↔ ¬ (v < 0) := by rw [← hlt]; omega
     simp only [if_true, Bool.xor_true]
     by_cases c : v < 0
     ·rw [decide_eq_true c, decide_eq_false (fun q => this.1 q c)]; rfl
     ·rw [decide_eq_false c, decide_eq_true (this.2 c)]; rfl
   rw [hs]
   generalize mag (rung v.natAbs 0) = m
   unfold sv
   cases decide (v < 0) <;> cases n <;> simp [Int.neg_mul]
theorem nat_dvd {g : Nat} {v : Int} : 2 ^ g ∣ v.natAbs ↔ ((2 : Int) ^ g) ∣ v := by
 rw [← Int.natAbs_dvd_natAbs, show ((2 : Int) ^ g).natAbs = 2 ^ g from by rw [Int.natAbs_pow]; rfl]
theorem dvd_add' {g : Nat} {a b : Int} (h1 : 2 ^ g ∣ a.natAbs) (h2 : 2 ^ g ∣ b.natAbs) : 2 ^ g ∣ (a + b).natAbs :=
 nat_dvd.2 (Int.dvd_add (nat_dvd.1 h1) (nat_dvd.1 h2))
theorem Sc.add {n : Bool} {k g h x y x' y' : Nat} (hg : 53 ≤ g) (h1 : 52 ≤ h) (h2 : h + 1 + k ≤ 2097) (H : Sc n k g h x y) (G : Sc n k g h x' y') : Sc n k g (h + 1) (fadd x x') (fadd y y') := by
 rw [fadd_fin H.gd.nm G.gd.nm, fadd_fin H.nm G.nm]
 refine R_sc n hg (by omega) h2 (dvd_add' H.gd.dvd G.gd.dvd) ?_ (by rw [H.v, G.v]; cases n <;> simp [Int.add_mul] <;> omega)
 have := H.gd.bd; have := G.gd.bd
 rw [Nat.pow_succ]; omega
theorem Sc.neg {n : Bool} {k g h x y : Nat} (H : Sc n k g h x y) : Sc n k g h (fng x) (fng y) := by
 obtain ⟨a, b⟩ := fng_facts H.gd.nm
 obtain ⟨c, d⟩ := fng_facts H.nm
 exact ⟨⟨a, by rw [b, Int.natAbs_neg]; exact H.gd.dvd, by rw [b, Int.natAbs_neg]; exact H.gd.bd⟩, c, by rw [d, b, H.v]; cases n <;> simp [Int.neg_mul]⟩
theorem Sc.sub {n : Bool} {k g h x y x' y' : Nat} (hg : 53 ≤ g) (h1 : 52 ≤ h) (h2 : h + 1 + k ≤ 2097) (H : Sc n k g h x y) (G : Sc n k g h x' y') : Sc n k g (h + 1) (fsub x x') (fsub y y') := by
 have e : ∀ {a b : Nat}, Nm a → Nm b → fsub a b = fadd a (fng b) := fun ha hb => by
  obtain ⟨c, d⟩ := fng_facts hb
  rw [fsub_fin ha hb, fadd_fin ha c, d, Int.sub_eq_add_neg]
 rw [e H.gd.nm G.gd.nm, e H.nm G.nm]
 exact H.add hg h1 h2 G.neg
theorem Sc.mul {n : Bool} {k g g' h x y c u t : Nat} (hu : u = 1012) (ht : t = 62) (hg' : g = g' + t) (hg : 53 ≤ g') (h1 : 52 ≤ h) (h2 : h + k ≤ 2097) (H : Sc n k g h x y) (C : Nm c) (Cd : ∃ t : Int, V c = t * 2 ^ u) (Cb : (V c).natAbs ≤ 2 ^ (u + t)) :
  Sc n k g' h (fmul x c) (fmul y c) := by
 rw [fmul_fin H.gd.nm C, fmul_fin H.nm C, show 1074 = u + t from by omega]
 obtain ⟨f, hf⟩ := Cd
 have hxd := H.gd.dvd
 -- x's number is a multiple of 2^(g' + 62), so the product one of 2^1074
 obtain ⟨z, hz⟩ := nat_dvd.1 hxd
 have e1 : V x * V c = z * f * 2 ^ g' * 2 ^ (u + t) := by
  rw [hf, hz, hg', Int.pow_add, Int.pow_add]
  simp only [Int.mul_assoc, Int.mul_comm, Int.mul_left_comm]
 have e2 : V y * V c = (if n then -1 else 1) * (z * f * 2 ^ g' * 2 ^ k) * 2 ^ (u + t) := by
  rw [H.v, Int.mul_assoc, Int.mul_assoc (V x), Int.mul_comm (2 ^ k), ← Int.mul_assoc (V x), e1]
  simp only [Int.mul_assoc, Int.mul_comm, Int.mul_left_comm]
 rw [e1, e2]
 have s1 := R_scale (z * f * 2 ^ g') 0 (u + t)
 have s2 := R_scale ((if n then -1 else 1) * (z * f * 2 ^ g' * 2 ^ k)) 0 (u + t)
 rw [Nat.zero_add] at s1 s2
 rw [s1, s2]
 refine R_sc n hg h1 h2 ?_ ?_ rfl
 ·exact nat_dvd.2 ⟨z * f, Int.mul_comm _ _⟩
 ·have hb := H.gd.bd
  have hm : (V x * V c).natAbs ≤ 2 ^ h * 2 ^ (u + t) := by rw [Int.natAbs_mul]; exact Nat.mul_le_mul hb Cb
  rw [e1, Int.natAbs_mul, show ((2 : Int) ^ (u + t)).natAbs = 2 ^ (u + t) from by rw [Int.natAbs_pow]; rfl] at hm
  exact Nat.le_of_mul_le_mul_right hm (Nat.two_pow_pos _)
end W3
namespace Y2
open Ieee Go Gp Gq Gr G9 U0 W0 W1 W2 W3 M0 M1 M2 M3 M4 Pc Po Y1
structure Fc (c : Nat) : Prop where
 nm : Nm c
 dvd : ∀ u, u = 1012 → ∃ t : Int, V c = t * 2 ^ u
 bd : ∀ u, u = 1012 → (V c).natAbs ≤ 2 ^ (u + 62)
def fcB (u : Nat) (c : Nat) : Bool := nmB c && (decide ((V c).natAbs % 2 ^ u = 0) && decide ((V c).natAbs ≤ 2 ^ (u + 62)))
theorem fc_of {c : Nat} (h : ∀ u, u = 1012 → fcB u c = true) : Fc c := by
 have h1 : nmB c = true := by have := h _ rfl; unfold fcB at this; simp only [Bool.and_eq_true] at this; exact this.1
 refine ⟨nm_of h1, fun u hu => ?_, fun u hu => ?_⟩
 ·have := h u hu
  unfold fcB at this
  simp only [Bool.and_eq_true, decide_eq_true_eq] at this
  obtain ⟨t, ht⟩ := nat_dvd.1 (Nat.dvd_of_mod_eq_zero this.2.1)
  exact ⟨t, by rw [ht, Int.mul_comm]⟩
 ·have := h u hu
  unfold fcB at this
  simp only [Bool.and_eq_true, decide_eq_true_eq] at this
  exact this.2.2
def tabFc (u p : Nat) : Bool := (List.range (2 ^ (p - 1))).all fun j => fcB u (tabW p j).1 && fcB u (tabW p j).2
def c1012 : Nat := 1012
theorem tab_fcB : ∀ p : Fin 10, tabFc c1012 p.val = true := by decide +kernel
theorem tab_fc {p k : Nat} (hp : p ≤ 9) (hk : k < 2 ^ (p - 1)) : Fc (tabW p k).1 ∧ Fc (tabW p k).2 := by
 have h := tab_fcB ⟨p, by omega⟩
 unfold tabFc at h
 simp only [List.all_eq_true, List.mem_range, Bool.and_eq_true] at h
 exact ⟨fc_of fun u hu => by rw [hu]; exact (h k hk).1, fc_of fun u hu => by rw [hu]; exact (h k hk).2⟩
theorem half_fcB : fcB c1012 halfW = true := by decide +kernel
theorem half_fc : Fc halfW := fc_of fun u hu => by rw [hu]; exact half_fcB
section
variable {n : Bool} {k g h x y x' y' c : Nat}
set_option exponentiation.threshold 3000 in
theorem sc_mul {g' : Nat} (hg' : g = g' + 62) (hg : 53 ≤ g') (h1 : 52 ≤ h) (h2 : h + k ≤ 2097) (H : Sc n k g h x y) (C : Fc c) : Sc n k g' h (fmul x c) (fmul y c) :=
 Sc.mul rfl rfl hg' hg h1 h2 H C.nm (C.dvd _ rfl) (C.bd _ rfl)
end
def Sc2 (n : Bool) (k g h : Nat) (a b : Nat × Nat) : Prop := Sc n k g h a.1 b.1 ∧ Sc n k g h a.2 b.2
theorem sc_turn {n : Bool} {k g g' h a b a' b' : Nat} {w : Nat × Nat} (hw : Fc w.1 ∧ Fc w.2) (hg' : g = g' + 62) (hg : 53 ≤ g') (h1 : 52 ≤ h) (h2 : h + 1 + k ≤ 2097) (H : Sc n k g h a b) (G : Sc n k g h a' b') :
  Sc2 n k g' (h + 1) (cturn opsN a a' w.1 w.2) (cturn opsN b b' w.1 w.2) :=
 ⟨(sc_mul hg' hg h1 (by omega) H hw.1).add hg h1 h2 (sc_mul hg' hg h1 (by omega) G hw.2), (sc_mul hg' hg h1 (by omega) G hw.1).sub hg h1 h2 (sc_mul hg' hg h1 (by omega) H hw.2)⟩
theorem sc_tw1 {n : Bool} {k g g' h i a b a' b' : Nat} {tw : Nat → Nat × Nat} (hw : Fc (tw i).1 ∧ Fc (tw i).2) (hg' : g = g' + 62) (hg : 53 ≤ g') (h1 : 52 ≤ h) (h2 : h + 1 + k ≤ 2097) (H : Sc n k g h a b) (G : Sc n k g h a' b') :
  Sc2 n k g' (h + 1) (tw1 opsN tw i a a') (tw1 opsN tw i b b') := by
 unfold tw1
 split
 ·exact ⟨H.mono (by omega) (by omega), G.mono (by omega) (by omega)⟩
 ·exact sc_turn hw hg' hg h1 h2 H G
theorem sc_merge {n : Bool} {k g g' h i : Nat} {tw : Nat → Nat × Nat} (hw : Fc (tw i).1 ∧ Fc (tw i).2) (hg' : g = g' + 62) (hg : 53 ≤ g') (h1 : 52 ≤ h) (h2 : h + 2 + k ≤ 2097) {e e' o o' : Nat × Nat} (H : Sc2 n k g h e e') (G : Sc2 n k g h o o') :
  Sc2 n k g' (h + 2) (cadd opsN e.1 e.2 (tw1 opsN tw i o.1 o.2).1 (tw1 opsN tw i o.1 o.2).2) (cadd opsN e'.1 e'.2 (tw1 opsN tw i o'.1 o'.2).1 (tw1 opsN tw i o'.1 o'.2).2) ∧
  Sc2 n k g' (h + 2) (csub opsN e.1 e.2 (tw1 opsN tw i o.1 o.2).1 (tw1 opsN tw i o.1 o.2).2) (csub opsN e'.1 e'.2 (tw1 opsN tw i o'.1 o'.2).1 (tw1 opsN tw i o'.1 o'.2).2) := by
 have T := sc_tw1 (i := i) (tw := tw) hw hg' hg h1 (by omega) G.1 G.2
 have E1 := H.1.mono (show g' ≤ g by omega) (show h ≤ h + 1 by omega)
 have E2 := H.2.mono (show g' ≤ g by omega) (show h ≤ h + 1 by omega)
 exact ⟨⟨E1.add hg (by omega) (by omega) T.1, E2.add hg (by omega) (by omega) T.2⟩, ⟨E1.sub hg (by omega) (by omega) T.1, E2.sub hg (by omega) (by omega) T.2⟩⟩
def ScL (n : Bool) (k g h : Nat) (X Y : List Nat) : Prop := X.length = Y.length ∧ ∀ i, i < X.length → Sc n k g h (nthN X i) (nthN Y i)
theorem ScL.mono {n : Bool} {k g h g' h' : Nat} {X Y : List Nat} (H : ScL n k g h X Y) (a : g' ≤ g) (b : h ≤ h') : ScL n k g' h' X Y := ⟨H.1, fun i hi => (H.2 i hi).mono a b⟩
theorem into_sc {n : Bool} {k g h p : Nat} (hp : p ≤ 7) {X Y X' Y' : List Nat} (h1 : X.length = 2 ^ p) (h2 : Y.length = 2 ^ p) (hg : 53 + 62 * p ≤ g) (hh : 52 ≤ h) (h3 : h + 2 * p + k ≤ 2097) (HX : ScL n k g h X X') (HY : ScL n k g h Y Y') :
  ScL n k (g - 62 * p) (h + 2 * p) (intoN p (X, Y)).1 (intoN p (X', Y')).1 ∧ ScL n k (g - 62 * p) (h + 2 * p) (intoN p (X, Y)).2 (intoN p (X', Y')).2 := by
 have l1 : X'.length = 2 ^ p := by rw [← HX.1, h1]
 have l2 : Y'.length = 2 ^ p := by rw [← HY.1, h2]
 obtain ⟨e1, e2⟩ := intoN_len (st := (X, Y)) h1 h2
 obtain ⟨e3, e4⟩ := intoN_len (st := (X', Y')) l1 l2
 have key : ∀ i, i < 2 ^ p → Sc2 n k (g - 62 * p) (h + 2 * p) (nthG opsN (intoN p (X, Y)).1 i, nthG opsN (intoN p (X, Y)).2 i) (nthG opsN (intoN p (X', Y')).1 i, nthG opsN (intoN p (X', Y')).2 i) := by
  unfold intoN
  rw [into_rec opsN (tabW p) (twp p) hp (fun _ _ _ _ => rfl) _ h1 h2, into_rec opsN (tabW p) (twp p) hp (fun _ _ _ _ => rfl) _ l1 l2]
  refine rec_rel opsN opsN (fun q e e' => Sc2 n k (g - 62 * q) (h + 2 * q) e e') (twp p) (twp p) (P := p) (fun q i e o e' o' hq hi E O => ?_) p (Nat.le_refl p) (X, Y) (X', Y') h1 h2 l1 l2 (fun i hi => ⟨HX.2 i (by rw [h1]; exact hi), HY.2 i (by rw [h2]; exact hi)⟩)
  have hlt : i * 2 ^ (p - (q + 1)) < 2 ^ (p - 1) := by
   have := Nat.mul_lt_mul_of_pos_right hi (Nat.two_pow_pos (p - (q + 1)))
   rw [← Nat.pow_add, show q + (p - (q + 1)) = p - 1 by omega] at this
   exact this
  have M := sc_merge (tw := twp p q) (i := i) (g' := g - 62 * (q + 1)) (tab_fc (by omega) hlt) (by omega) (by omega) (by omega) (by omega) E O
  rw [show h + 2 * (q + 1) = h + 2 * q + 2 by omega]
  exact M
 exact ⟨⟨by rw [e1, e3], fun i hi => (key i (by rw [← e1]; exact hi)).1⟩, ⟨by rw [e2, e4], fun i hi => (key i (by rw [← e2]; exact hi)).2⟩⟩
theorem mag_dvd {r e : Nat} (h : P2 (e + 1) ≤ r) : 2 ^ e ∣ mag r := by
 have hb : 0 < bn := by decide
 unfold P2 at h
 have h1 : ¬ r < bn := by
  have : bn ≤ (e + 1) * bn := Nat.le_mul_of_pos_left _ (by omega)
  omega
 unfold mag
 rw [if_neg h1]
 have : e ≤ r / bn - 1 := by
  have := (Nat.le_div_iff_mul_le hb).2 h
  omega
 exact Nat.dvd_trans (Nat.pow_dvd_pow 2 this) (Nat.dvd_mul_left _ _)
def Tm (x : Nat) : Prop := Nm x ∧ (x = 0 ∨ (P2 983 ≤ frung x ∧ frung x ≤ P2 1063))
set_option exponentiation.threshold 3000 in
theorem tm_gd {x g h : Nat} (hg : g = 982) (hh : h = 1114) (H : Tm x) : Gd g h x := by
 subst hg
 obtain ⟨a, rfl | ⟨b, c⟩⟩ := H
 ·exact gd_zero _ _
 ·refine ⟨a, by rw [V_abs]; exact mag_dvd b, ?_⟩
  rw [V_abs]
  have := mag_le.2 c
  rw [mag_P2 (c := 1062) rfl (by decide)] at this
  rw [hh]; exact this
theorem V_fng_P2 {e c : Nat} (hc : c = e + 51) (h : 1 ≤ e) (h2 : e ≤ 2046) : Nm (fng (P2 e)) ∧ V (fng (P2 e)) = -(2 ^ c) := by
 obtain ⟨a, b⟩ := fng_facts (P2_facts h h2).1
 exact ⟨a, by rw [b, V_P2 hc h h2]⟩
def facW (up : Bool) : Nat := if up then P2 1064 else fng (P2 990)
def ScU (up : Bool) (g h x y : Nat) : Prop := if up then Sc false 41 g h x y else Sc true 33 g h y x
theorem fac_to {up : Bool} {x g h : Nat} (hg : g = 949) (hh : h = 1114) (H : Tm x) : ScU up g h x (fmul x (facW up)) := by
 have G := tm_gd (g := g + 33) (h := h) (by omega) hh H
 have hx := R_self G.nm
 cases up with
 | true =>
  have e := fmul_up (x := x) (p := 41) G.nm (by decide)
  show Sc false 41 g h x (fmul x (P2 1064))
  rw [e]
  have := R_sc false (v := V x) (w := V x * 2 ^ 41) (k := 41) (g := g) (h := h) (by omega) (by omega) (by omega) (Nat.dvd_trans (Nat.pow_dvd_pow 2 (by omega)) G.dvd) G.bd (by simp)
  rw [hx] at this; exact this
 | false =>
  show Sc true 33 g h (fmul x (fng (P2 990))) x
  obtain ⟨a, b⟩ := V_fng_P2 (e := 990) (c := 1041) rfl (by decide) (by decide)
  rw [fmul_fin G.nm a, b]
  obtain ⟨z, hz⟩ := nat_dvd.1 G.dvd
  have e1 : V x * -(2 ^ 1041) = -(z * 2 ^ g) * 2 ^ 1074 := by
   rw [hz, show (1074 : Nat) = 33 + 1041 from rfl, Int.pow_add, Int.pow_add, Int.mul_neg, Int.neg_mul]
   simp only [Int.mul_assoc, Int.mul_comm, Int.mul_left_comm]
  rw [e1]
  have s1 := R_scale (-(z * 2 ^ g)) 0 1074
  rw [Nat.zero_add] at s1
  rw [s1]
  have e2 : V x = -1 * (-(z * 2 ^ g) * 2 ^ 33) := by
   rw [hz, Int.pow_add]
   simp only [Int.neg_mul, Int.one_mul, Int.neg_neg, Int.mul_assoc, Int.mul_comm, Int.mul_left_comm]
  have hbd : (-(z * 2 ^ g)).natAbs ≤ 2 ^ h := by
   have h1 := G.bd
   rw [e2, Int.natAbs_mul, Int.natAbs_mul] at h1
   have : (-(z * 2 ^ g)).natAbs ≤ (-(z * 2 ^ g)).natAbs * ((2 : Int) ^ 33).natAbs := Nat.le_mul_of_pos_right _ (by decide)
   have h2 : ((-1 : Int)).natAbs = 1 := rfl
   rw [h2, Nat.one_mul] at h1
   exact Nat.le_trans this h1
  have := R_sc true (v := -(z * 2 ^ g)) (w := V x) (k := 33) (g := g) (h := h) (by omega) (by omega) (by omega) (nat_dvd.2 ⟨-z, by rw [Int.mul_neg, Int.mul_comm]⟩) hbd (by rw [if_pos rfl]; exact e2)
  rw [hx] at this; exact this
theorem fac_back {up : Bool} {x y g h : Nat} (H : ScU up g h x y) : fmul x (facW up) = y := by
 cases up with
 | true =>
  have H : Sc false 41 g h x y := H
  show fmul x (P2 1064) = y
  rw [fmul_up (x := x) (p := 41) H.gd.nm (by decide)]
  have e : V x * 2 ^ 41 = V y := by have := H.v; simp at this; exact this.symm
  rw [e, R_self H.nm]
 | false =>
  have H : Sc true 33 g h y x := H
  show fmul x (fng (P2 990)) = y
  obtain ⟨a, b⟩ := V_fng_P2 (e := 990) (c := 1041) rfl (by decide) (by decide)
  rw [fmul_fin H.nm a, b]
  have e1 : V x * -(2 ^ 1041) = V y * 2 ^ 1074 := by
   rw [H.v, if_pos rfl, show (1074 : Nat) = 33 + 1041 from rfl, Int.pow_add]
   simp only [Int.neg_mul, Int.mul_neg, Int.neg_neg, Int.one_mul, Int.mul_assoc]
  rw [e1]
  have s1 := R_scale (V y) 0 1074
  rw [Nat.zero_add] at s1
  rw [s1, R_self H.gd.nm]
def ScLU (up : Bool) (g h : Nat) (X Y : List Nat) : Prop := if up then ScL false 41 g h X Y else ScL true 33 g h Y X
theorem scale_to {up : Bool} {X : List Nat} {g h : Nat} (hg : g = 949) (hh : h = 1114) (H : ∀ x ∈ X, Tm x) : ScLU up g h X (X.map fun x => fmul x (facW up)) := by
 have key : ∀ i, i < X.length → ScU up g h (nthN X i) (nthN (X.map fun x => fmul x (facW up)) i) := fun i hi => by
  have := fac_to (up := up) hg hh (H X[i] (List.getElem_mem hi))
  rw [nthN_lt hi, nthN_lt (by simpa using hi)]; simpa using this
 cases up with
 | true => exact ⟨by simp, key⟩
 | false => exact ⟨by simp, fun i hi => key i (by simpa using hi)⟩
theorem scale_back {up : Bool} {X Y : List Nat} {g h : Nat} (H : ScLU up g h X Y) : X.map (fun x => fmul x (facW up)) = Y := by
 have hl : X.length = Y.length := by cases up <;> first | exact H.1 | exact H.1.symm
 have key : ∀ i, i < X.length → ScU up g h (nthN X i) (nthN Y i) := fun i hi => by
  cases up with
  | true => exact H.2 i hi
  | false => exact H.2 i (by rw [← hl]; exact hi)
 apply List.ext_getElem (by simpa using hl)
 intro i h1 h2
 have := fac_back (key i (by simpa using h1))
 rw [nthN_lt (by simpa using h1), nthN_lt h2] at this
 simpa using this
end Y2
namespace Z2
open Ieee Go Gp Gq Gr G9 U0 W0 W1 W2 W3 M0 M1 M2 M3 M4 Pc Po Y1 Y2 Z1
theorem p2_fcB : ∀ p : Fin 8, fcB c1012 (P2 (1023 - p.val)) = true := by decide +kernel
theorem p2_fc {p : Nat} (hp : p ≤ 7) : Fc (P2 (1023 - p)) := fc_of fun u hu => by rw [hu]; exact p2_fcB ⟨p, by omega⟩
theorem sc_cmul {n : Bool} {k g g' h a b a' b' : Nat} {w : Nat × Nat} (hw : Fc w.1 ∧ Fc w.2) (hg' : g = g' + 62) (hg : 53 ≤ g') (h1 : 52 ≤ h) (h2 : h + 1 + k ≤ 2097) (H : Sc n k g h a b) (G : Sc n k g h a' b') :
  Sc2 n k g' (h + 1) (cmul opsN a a' w.1 w.2) (cmul opsN b b' w.1 w.2) :=
 ⟨(sc_mul hg' hg h1 (by omega) H hw.1).sub hg h1 h2 (sc_mul hg' hg h1 (by omega) G hw.2), (sc_mul hg' hg h1 (by omega) H hw.2).add hg h1 h2 (sc_mul hg' hg h1 (by omega) G hw.1)⟩
theorem sc_back {n : Bool} {k g g' h x0 x1 x2 x3 y0 y1 y2 y3 : Nat} {w : Nat × Nat} (hw : Fc w.1 ∧ Fc w.2) (hg' : g = g' + 124) (hg : 53 ≤ g') (h1 : 52 ≤ h) (h2 : h + 3 + k ≤ 2097)
  (H0 : Sc n k g h x0 y0) (H1 : Sc n k g h x1 y1) (H2 : Sc n k g h x2 y2) (H3 : Sc n k g h x3 y3) : Sc2 n k g' (h + 3) (backG opsN w x0 x1 x2 x3) (backG opsN w y0 y1 y2 y3) := by
 have hf : ∀ {a b}, Sc n k g (h + 1) a b → Sc n k (g' + 62) (h + 1) (fmul a halfW) (fmul b halfW) := fun H => sc_mul (by omega) (by omega) (by omega) (by omega) H half_fc
 have A := hf (H0.add (by omega) h1 (by omega) H2)
 have C := hf (H1.sub (by omega) h1 (by omega) H3)
 have D := hf (H0.sub (by omega) h1 (by omega) H2)
 have B := hf (H1.add (by omega) h1 (by omega) H3)
 have T := sc_cmul hw (g' := g') rfl hg (by omega) (by omega) D B
 have A1 := A.mono (show g' ≤ g' + 62 by omega) (show h + 1 ≤ h + 1 + 1 by omega)
 have C1 := C.mono (show g' ≤ g' + 62 by omega) (show h + 1 ≤ h + 1 + 1 by omega)
 exact ⟨A1.sub hg (by omega) (by omega) T.2, C1.add hg (by omega) (by omega) T.1⟩
theorem map_sc {n : Bool} {k g h g' h' : Nat} {f : Nat → Nat} {X Y : List Nat} (F : ∀ a b, Sc n k g h a b → Sc n k g' h' (f a) (f b)) (H : ScL n k g h X Y) : ScL n k g' h' (X.map f) (Y.map f) :=
 ⟨by rw [List.length_map, List.length_map, H.1], fun i hi => by
  rw [List.length_map] at hi
  have hj : i < Y.length := by rw [← H.1]; exact hi
  have := H.2 i hi
  rw [nthN_lt hi, nthN_lt hj] at this
  rw [nthN_lt (by rw [List.length_map]; exact hi), nthN_lt (by rw [List.length_map]; exact hj), List.getElem_map, List.getElem_map]
  exact F _ _ this⟩
theorem inv_sc {n : Bool} {k g h p : Nat} (hp : p ≤ 7) {X Y X' Y' : List Nat} (h1 : X.length = 2 ^ p) (h2 : Y.length = 2 ^ p) (hg : 53 + 62 * p + 62 ≤ g) (hh : 52 ≤ h) (h3 : h + 2 * p + k ≤ 2097) (HX : ScL n k g h X X') (HY : ScL n k g h Y Y') :
  ScL n k (g - 62 * p - 62) (h + 2 * p) (invN p (X, Y)).1 (invN p (X', Y')).1 ∧ ScL n k (g - 62 * p - 62) (h + 2 * p) (invN p (X, Y)).2 (invN p (X', Y')).2 := by
 obtain ⟨A, B⟩ := into_sc hp h1 (by rw [List.length_map]; exact h2) (by omega) hh h3 HX (map_sc (f := fng) (fun _ _ H => H.neg) HY)
 have F : ∀ a b, Sc n k (g - 62 * p) (h + 2 * p) a b → Sc n k (g - 62 * p - 62) (h + 2 * p) (fmul a (P2 (1023 - p))) (fmul b (P2 (1023 - p))) := fun a b H => sc_mul (by omega) (by omega) (by omega) (by omega) H (p2_fc hp)
 exact ⟨map_sc F A, map_sc (f := fng) (fun _ _ H => H.neg) (map_sc F B)⟩
theorem invN_len1 {p : Nat} {X Y : List Nat} (h1 : X.length = 2 ^ p) (h2 : Y.length = 2 ^ p) : (invN p (X, Y)).1.length = 2 ^ p ∧ (invN p (X, Y)).2.length = 2 ^ p := by
 obtain ⟨a, b⟩ := intoN_len (p := p) (st := (X, Y.map fng)) h1 (by rw [List.length_map]; exact h2)
 unfold invN
 exact ⟨by rw [List.length_map]; exact a, by rw [List.length_map, List.length_map]; exact b⟩
theorem irfft_sc {n : Bool} {k g h p : Nat} (h0 : 1 ≤ p) (hp : p ≤ 7) {X Y : List Nat} (h1 : X.length = 2 ^ p) (hg : 53 + 124 + 62 * (p - 1) + 62 ≤ g) (hh : 52 ≤ h) (h3 : h + 3 + 2 * (p - 1) + k ≤ 2097) (H : ScL n k g h X Y) :
  ScL n k (g - 124 - 62 * (p - 1) - 62) (h + 3 + 2 * (p - 1)) (irfftN p X) (irfftN p Y) := by
 have hm : 0 < 2 ^ (p - 1) := Nat.two_pow_pos _
 have hp2 := two_half h0
 have x : ∀ j, j < 2 ^ p → Sc n k g h (nthG opsN X j) (nthG opsN Y j) := fun j hj => H.2 j (by rw [h1]; exact hj)
 have B : ∀ j, j < 2 ^ (p - 1) → Sc2 n k (g - 124) (h + 3) (backAt opsN (tabW p) (2 ^ (p - 1)) X j) (backAt opsN (tabW p) (2 ^ (p - 1)) Y j) := by
  intro j hj
  unfold backAt
  split
  ·have A := sc_mul (g' := g - 62) (by omega) (by omega) (by omega) (by omega) ((x 0 (by omega)).add (by omega) hh (by omega) (x 1 (by omega))) half_fc
   have C := sc_mul (g' := g - 62) (by omega) (by omega) (by omega) (by omega) ((x 0 (by omega)).sub (by omega) hh (by omega) (x 1 (by omega))) half_fc
   exact ⟨A.mono (by omega) (by omega), C.mono (by omega) (by omega)⟩
  ·exact sc_back (tab_fc (by omega) hj) (by omega) (by omega) hh (by omega) (x _ (by omega)) (x _ (by omega)) (x _ (by omega)) (x _ (by omega))
 have Z : ScL n k (g - 124) (h + 3) (irfftZ p X).1 (irfftZ p Y).1 ∧ ScL n k (g - 124) (h + 3) (irfftZ p X).2 (irfftZ p Y).2 := by
  unfold irfftZ
  refine ⟨⟨by simp, fun i hi => ?_⟩, ⟨by simp, fun i hi => ?_⟩⟩ <;> (simp only [List.length_map, List.length_range] at hi; show Sc n k _ _ (nthG opsN _ i) (nthG opsN _ i); rw [nthG_map opsN _ hi, nthG_map opsN _ hi])
  ·exact (B i hi).1
  ·exact (B i hi).2
 have l1 : (irfftZ p X).1.length = 2 ^ (p - 1) ∧ (irfftZ p X).2.length = 2 ^ (p - 1) := by unfold irfftZ; simp
 obtain ⟨V1, V2⟩ := inv_sc (p := p - 1) (by omega) l1.1 l1.2 (by omega) (by omega) (by omega) Z.1 Z.2
 obtain ⟨q1, q2⟩ := invN_len1 l1.1 l1.2
 refine ⟨by rw [irfftN_len, irfftN_len], fun i hi => ?_⟩
 rw [irfftN_len] at hi
 unfold irfftN
 rw [zip_at hi, zip_at hi]
 split
 ·exact V1.2 _ (by rw [q1]; omega)
 ·exact V2.2 _ (by rw [q2]; omega)
theorem irfft_scale {up : Bool} {p : Nat} {X : List Nat} (h0 : 1 ≤ p) (hp : p ≤ 6) (h1 : X.length = 2 ^ p) (H : ∀ x ∈ X, Tm x) : irfftN p (X.map fun x => fmul x (facW up)) = (irfftN p X).map fun x => fmul x (facW up) := by
 have S := scale_to (up := up) rfl rfl H
 symm
 refine scale_back (up := up) (g := 949 - 124 - 62 * (p - 1) - 62) (h := 1114 + 3 + 2 * (p - 1)) ?_
 cases up with
 | true => exact irfft_sc h0 (by omega) h1 (by omega) (by omega) (by omega) S
 | false => exact irfft_sc h0 (by omega) (by rw [List.length_map]; exact h1) (by omega) (by omega) (by omega) S
end Z2
namespace K4
open Ieee Go Go.RowKit Go.Proofs Go.Proofs.YtalbgklfhabnkaaGreatDoor Ow Dt Gp I0 U0 W0 S4 S6 P0 M0 M1 M3 W4 W5 V2 P4 Y3 Yh P0 Z1 Y6 Y1 Y8 Pc K1 K2 K3 S6 P4
open Go.Proofs.YtalbgklfhabnkaaGreatDoor.Dp (tz)
open Go.Proofs.YtalbgklfhabnkaaGreatDoor.V1 (NI St ni_same ni_loop St.refl St.of_bel blk_keep ni_blk put_st)
open Go.Proofs.YtalbgklfhabnkaaGreatDoor.C6 (leaveAny)
open Go.Proofs.YtalbgklfhabnkaaGreatDoor.Pg (In)
attribute [local go_sem ↓] Go.wp_at_zero Go.wp_at_succ
theorem hp_cz {W0 w w' : World} {L : List Ent} {B bz : Nat} (h : Hp W0 w L) (c : Cz B bz w w') (hL : ∀ e ∈ L, e.b < B ∧ e.b ≠ bz) (h1 : W0.heap.size ≤ bz) (h2 : W0.heap.size ≤ B) : Hp W0 w' L :=
 ⟨Ch.toBel c h.bel (fun k hk q => by rcases q with q | q <;> omega), h.ge, h.nd, fun e he => (h.ok e he).same (c.block e.b (h.lt e he) (fun q => by have := hL e he; rcases q with q | q <;> omega))⟩
theorem fz_i4 {w : World} {b n c : Nat} {X : List Nat} (h : Fz w b X) (hn : X.length = n) (hl : n ≤ 100000) (h1 : n ≤ c) (h2 : c ≤ 9223372036854775807) : In w (.slice (some ⟨b, 0, none⟩) n c) X := by
 subst hn
 exact ⟨_, c, rfl, h1, h2, h.fr (by omega), fun e => by cases e⟩
theorem cz_refl (B bz : Nat) (w : World) : Cz B bz w w := Ch.refl _ _
def zRe (p m : Nat) (X : List Nat) (k : Nat) : List Nat := (List.range k).map fun j => (backAt M3.opsN (tabW p) m X j).1
def zIm (p m : Nat) (X : List Nat) (k : Nat) : List Nat := (List.range k).map fun j => (backAt M3.opsN (tabW p) m X j).2
theorem zRe_len (p m : Nat) (X : List Nat) (k : Nat) : (zRe p m X k).length = k := by simp [zRe]
theorem zIm_len (p m : Nat) (X : List Nat) (k : Nat) : (zIm p m X k).length = k := by simp [zIm]
theorem zRe_succ {p m : Nat} {X : List Nat} {k x : Nat} (h : x = (backAt M3.opsN (tabW p) m X k).1) : zRe p m X k ++ [x] = zRe p m X (k + 1) := by subst h; simp [zRe, List.range_succ]
theorem zIm_succ {p m : Nat} {X : List Nat} {k x : Nat} (h : x = (backAt M3.opsN (tabW p) m X k).2) : zIm p m X k ++ [x] = zIm p m X (k + 1) := by subst h; simp [zIm, List.range_succ]
theorem okR_tz {n p : Nat} (hn : n = 2 ^ p) (hp : p ≤ 7) : bits .and .i64 (n : Int) ((n : Int) - 1) = 0 ∧ tz n = p := by
 have h7 : n ≤ 128 := by rw [hn]; exact Nat.le_trans (Nat.pow_le_pow_right (by decide) hp) (by decide)
 have h0 : n ≠ 0 := by rw [hn]; exact Nat.ne_of_gt (Nat.two_pow_pos p)
 obtain ⟨f1, f2⟩ := log_fact (n := n) (by omega) h0
 have e : Nat.log2 n = p := by rw [hn]; exact Nat.log2_two_pow
 rw [e] at f1 f2
 exact ⟨f1.2 hn.symm, f2 hn.symm⟩
theorem dIrfftOk {ad : Addr} {c n p : Nat} {X : List Nat} (w : World) (T : Tab w) (hx : In w (.slice (some ad) n c) X) (hX : X.length = n) (hp : n = 2 ^ p) (h1 : 1 ≤ p) (hp7 : p ≤ 7) :
  Calls Tryz.prog 17 #[.slice (some ad) n c] w (MakesRE w (irfftN p X) 0) := by
 obtain ⟨m, hm⟩ : ∃ m, m = 2 ^ (p - 1) := ⟨_, rfl⟩
 have hn2 : n = 2 * m := by rw [hm, ← two_half h1]; exact hp
 have hm1 : 1 ≤ m := by rw [hm]; exact Nat.two_pow_pos _
 have hn128 : n ≤ 128 := by rw [hp]; exact Nat.le_trans (Nat.pow_le_pow_right (by decide) hp7) (by decide)
 have hm64 : m ≤ 64 := by omega
 obtain ⟨hbt, htz⟩ := okR_tz hp hp7
 have HP := Ho.mk hp
 have HM := Ho.mk hm
 have HN2 := Ho.mk hn2
 have TT := Ho.mk T
 have HX := Ho.mk hx
 have HXL := Ho.mk hX
 have HTZ := Ho.mk htz
 have hd1 : (n : Int).tdiv 2 = (m : Int) := by rw [Int.tdiv_eq_ediv_of_nonneg (by omega)]; omega
 have hd2 : (n : Int) / 2 = (m : Int) := by omega
 have hn2' : ¬ (n : Int) < 2 := by omega
 have hn3 : ¬ (1024 : Int) < (n : Int) := by omega
 have hn0 : (0 : Int) < (n : Int) := by omega
 have hn1 : (1 : Int) < (n : Int) := by omega
 have hn0n : 0 < n := by omega
 have hn1n : 1 < n := by omega
 clear hp hm T hx hX hn2 htz
 go_enter Tryz.func17, Tryz.ntmps17
 go_upto_region 1 with fail
 have H := Ho.mk ((Hp.nil (Bel.refl w)).box [.slice (some ad) n c] 25)
 generalize w.alloc (.cells #[.slice (some ad) n c] 25) = w1 at *
 have hb1 : w.heap.size = w.heap.size := rfl
 obtain ⟨b1, hb1⟩ : ∃ b1, b1 = w.heap.size := ⟨_, rfl⟩
 rw [← hb1] at H ⊢
 have HB1 := Ho.mk hb1
 clear hb1
 have yl := (H.out.blk 0 rfl).cell (i := 0) rfl
 refine wp_scope_straight ?_
 go_upto_region 2 with fail
 replace H := Ho.mk (H.out.box [.slice none 0 0, .slice none 0 0] 46)
 replace yl := ((Bel.refl w1).alloc (.cells #[.slice none 0 0, .slice none 0 0] 46)).cell yl
 generalize w1.alloc (.cells #[.slice none 0 0, .slice none 0 0] 46) = w2 at *
 generalize w1.heap.size = bz at *
 go_upto_region 7 with fail
 replace H := Ho.mk (H.out.box [.slice none 0 0, .slice none 0 0] 46)
 generalize w2.alloc (.cells #[.slice none 0 0, .slice none 0 0] 46) = w3 at *
 generalize w2.heap.size = b9 at *
 have CT : Ho (Calls Tryz.prog 39 #[.int .u64 (n : Int)] w3 fun e w' => e = .returned (.int .i64 (p : Int)) ∧ w3 = w') := ⟨(E1.tz_callsI (n : Int) w3 (by omega) (by omega) (TT.out.bel H.out.bel)).mono fun e w' h => ⟨by rw [h.1, Int.toNat_natCast, HTZ.out], h.2⟩⟩
 have TB := Ho.mk (dTable (q := p) (m := m) w3 (TT.out.bel H.out.bel) rfl (by omega) rfl (by omega))
 clear yl
 go_wp2_with fail
 (with_reducible refine CT.out.mono ?_); rintro e w3' ⟨rfl, rfl⟩
 clear CT hbt hd1 hd2 hn2' hn3
 go_wp2_with fail
 (with_reducible refine TB.out.mono ?_); rintro e w4 ⟨bb, bc, rfl, f1, f2, g1, g2, g3⟩
 replace H := Ho.mk (Hp.comb H.out (Hp.two g3 f1 f2 g1 g2))
 simp only [List.cons_append, List.nil_append] at H
 clear TB f1 f2 g1 g2 g3
 obtain ⟨y90, y91⟩ := (H.out.blk 2 rfl).c2
 have x90 := (H.out.blk 2 rfl).free 0
 have x91 := (H.out.blk 2 rfl).free 1
 go_upto_region 9 with fail
 replace H := Ho.mk ((H.out.set 2 rfl 0 (.slice (some ⟨bb, 0, none⟩) m m)).set 2 rfl 1 (.slice (some ⟨bc, 0, none⟩) m m))
 simp only [List.set_cons_zero, List.set_cons_succ] at H
 clear y90 y91 x90 x91
 generalize (w4.setCell ⟨b9, 0, none⟩ (.slice (some ⟨bb, 0, none⟩) m m)).setCell ⟨b9, 1, none⟩ (.slice (some ⟨bc, 0, none⟩) m m) = w5 at *
 obtain ⟨B, hB⟩ : ∃ B, B = w5.heap.size := ⟨_, rfl⟩
 have hzB : bz < B := by have := H.out.ltI 3 rfl; rw [hB]; exact this
 have hzw : w.heap.size ≤ bz := by have := H.out.geI 3 rfl; exact this
 have ZZ : Ho (Zz B w5 bz [] []) := ⟨⟨_, _, H.out.blk 3 rfl, Y3.Og.nil _, Y3.Og.nil _, fun g q => (by cases q), fun g q => (by cases q)⟩⟩
 have hwB : w.heap.size ≤ B := by omega
 have HLL : Ho (∀ e ∈ ([.whole bb ((List.range m).map fun k => (tabW p k).1), .whole bc ((List.range m).map fun k => (tabW p k).2), .blk b9 46 [.slice (some ⟨bb, 0, none⟩) m m, .slice (some ⟨bc, 0, none⟩) m m], .blk b1 25 [.slice (some ad) n c]] : List Ent), e.b < B ∧ e.b ≠ bz) := ⟨fun e he => by
  simp at he
  rcases he with rfl | rfl | rfl | rfl
  ·exact ⟨by rw [hB]; exact H.out.ltI 0 rfl, H.out.ne 0 3 rfl rfl⟩
  ·exact ⟨by rw [hB]; exact H.out.ltI 1 rfl, H.out.ne 1 3 rfl rfl⟩
  ·exact ⟨by rw [hB]; exact H.out.ltI 2 rfl, H.out.ne 2 3 rfl rfl⟩
  ·exact ⟨by rw [hB]; exact H.out.ltI 4 rfl, H.out.ne 4 3 rfl rfl⟩⟩
 replace H : Ho (Hp w w5 [.whole bb ((List.range m).map fun k => (tabW p k).1), .whole bc ((List.range m).map fun k => (tabW p k).2), .blk b9 46 [.slice (some ⟨bb, 0, none⟩) m m, .slice (some ⟨bc, 0, none⟩) m m], .blk b1 25 [.slice (some ad) n c]]) := ⟨H.out.pick [0, 1, 2, 4] rfl⟩
 have HBs := Ho.mk hB
 have hB5 : B ≤ w5.heap.size := by omega
 clear hB
 have yl := (H.out.blk 3 rfl).cell (i := 0) rfl
 obtain ⟨a0, y00, la0, ca0⟩ := in_at (HX.out.bel H.out.bel) (i := 0) (by rw [HXL.out]; omega)
 obtain ⟨a1, y01, la1, ca1⟩ := in_at (HX.out.bel H.out.bel) (i := 1) (by rw [HXL.out]; omega)
 rw [add_zero'] at y00
 have y01b := y01
 unfold Addr.add at y01b
 rw [if_neg (by decide)] at y01b
 have AD := Ho.mk (fun w => P0.dOAdd w la0 la1)
 have SU := Ho.mk (fun w => P0.dOSub w la0 la1)
 have CA := Ho.mk (And.intro ca0 ca1)
 clear la0 la1 ca0 ca1
 refine I7.wp_region_late 16 (S := fun w' => Bel w5 w') (by kernel_rfl) (Bel.refl _).drew (fun hHeld => ?_)
 (try dsimp only at hHeld)
 refine I7.kt (i := 0) hHeld ?_
 refine I7.kl (i := 1) (v := ?_) hHeld (fun w' hSw => ?_) ?_
 rotate_left
 ·(have z0 := hSw.cell yl; go_simp; try (with_reducible rfl))
 refine I7.kt (i := 2) hHeld ?_
 refine I7.kl (i := 3) (v := ?_) hHeld (fun w' hSw => ?_) ?_
 rotate_left
 ·(have z0 := hSw.cell y00; go_simp; try (with_reducible rfl))
 refine I7.kl (i := 4) (v := ?_) hHeld (fun w' hSw => ?_) ?_
 rotate_left
 ·(have z0 := hSw.cell yl; go_simp; try (with_reducible rfl))
 refine I7.kt (i := 5) hHeld ?_
 refine I7.kl (i := 6) (v := ?_) hHeld (fun w' hSw => ?_) ?_
 rotate_left
 ·(have z0 := hSw.cell y01; have z1 := hSw.cell y01b; go_simp; try (with_reducible rfl))
 refine I7.kl (i := 8) (v := ?_) hHeld (fun w' hSw => ?_) ?_
 rotate_left
 ·(have z0 := hSw.cell yl; go_simp; try (with_reducible rfl))
 refine I7.kt (i := 9) hHeld ?_
 refine I7.kl (i := 10) (v := ?_) hHeld (fun w' hSw => ?_) ?_
 rotate_left
 ·(have z0 := hSw.cell y00; go_simp; try (with_reducible rfl))
 refine I7.kl (i := 11) (v := ?_) hHeld (fun w' hSw => ?_) ?_
 rotate_left
 ·(have z0 := hSw.cell yl; go_simp; try (with_reducible rfl))
 refine I7.kt (i := 12) hHeld ?_
 refine I7.kl (i := 13) (v := ?_) hHeld (fun w' hSw => ?_) ?_
 rotate_left
 ·(have z0 := hSw.cell y01; have z1 := hSw.cell y01b; go_simp; try (with_reducible rfl))
 try simp only [Act.put, Ow.zS, Ow.zC, Ow.zD]
 refine I7.kc (i := 7) (fun K hK => ?_)
 go_simp
 go_at_call 41
 (with_reducible refine (AD.out _).mono ?_); rintro e v1 ⟨r1, rfl, l1, c1, q1⟩
 try go_wp2_with fail
 refine hK.out _ _ (Bel.trans hHeld q1) (fun hHeld => ?_)
 clear hK K
 try simp only [Act.put, Ow.zS, Ow.zC, Ow.zD]
 refine I7.kc (i := 14) (fun K hK => ?_)
 go_simp
 go_at_call 42
 (with_reducible refine (SU.out _).mono ?_); rintro e v2 ⟨r2, rfl, l2, c2, q2⟩
 try go_wp2_with fail
 refine hK.out _ _ (Bel.trans hHeld q2) (fun hHeld => ?_)
 clear hK K
 try simp only [Act.put, Ow.zS, Ow.zC, Ow.zD]
 refine I7.kc (i := 15) (fun K hK => ?_)
 go_simp
 go_at_call 40
 (with_reducible refine (dHalved _ l1 l2).mono ?_); rintro e v3 ⟨r3, s3, rfl, l3, c3, q3⟩
 try go_wp2_with fail
 refine hK.out _ _ (Bel.trans hHeld q3) (fun hHeld => ?_)
 clear hK K
 try simp only [Act.put, Ow.zS, Ow.zC, Ow.zD]
 refine I7.ke (i := 16) (fun K hK => ?_)
 go_simp
 go_at_call 36
 (refine (dPutZ _ (ZZ.out.bel hHeld) (by have := hHeld.size; omega) hzB l3.1 l3.2 (by decide) (by decide)).mono ?_); rintro e w6 ⟨rfl, zz, cz⟩
 try go_wp2_with fail
 refine hK.out _ _ ?_
 clear hK K
 try simp only [Act.put, Ow.zS, Ow.zC, Ow.zD]
 refine wpAny_done (by kernel_rfl) ?_ _
 have C6 : Ho (Cz B bz w5 w6) := ⟨((cz_refl B bz w5).bel hHeld).trans cz⟩
 have Z6 : Ho (Zz B w6 bz (zRe p m X 1) (zIm p m X 1)) := ⟨by
  have z := zz
  rw [show ([] : List Nat) ++ [cn r3] = zRe p m X 1 from zRe_succ (k := 0) (by rw [c3.1, c1, CA.out.1, CA.out.2]; unfold backAt; rw [if_pos rfl]; rfl), show ([] : List Nat) ++ [cn s3] = zIm p m X 1 from zIm_succ (k := 0) (by rw [c3.2, c2, CA.out.1, CA.out.2]; unfold backAt; rw [if_pos rfl]; rfl)] at z
  exact z⟩
 clear zz cz ZZ l1 l2 l3 c1 c2 c3 hHeld yl y00 y01 y01b AD SU CA q1 q2 q3
 go_wp2_with fail
 go_loopw [10] (fun v wr => ∃ (k : Nat), 1 ≤ k ∧ k ≤ m ∧ v = .int .i64 k ∧ Ho (Zz B wr bz (zRe p m X k) (zIm p m X k)) ∧ Ho (Cz B bz w5 wr)) (fun v _ => m - (intOf v).toNat)
 case atStart => exact ⟨1, Nat.le_refl _, hm1, rfl, Z6, C6⟩
 case round =>
  clear Z6 C6
  obtain ⟨k, hk1, hkm, rfl, ZR, CR⟩ := hrel
  have HR := Ho.mk (hp_cz H.out CR.out HLL.out hzw hwB)
  have hBr : B ≤ wr.heap.size := Nat.le_trans hB5 CR.out.size
  rcases Nat.lt_or_ge k m with hlt | hge
  ·obtain ⟨j, hj⟩ : ∃ j, j = m - k := ⟨_, rfl⟩
   have hjk : (m : Int) - (k : Int) = (j : Int) := by omega
   have HJ := Ho.mk hj
   clear hj
   have A1 := Ho.mk (dAtN (k := k) wr (HXL.out ▸ HR.out.blk 3 rfl) (HXL.out ▸ HX.out.bel HR.out.bel) (by have := HXL.out; have := HN2.out; omega) (by have := HXL.out; omega))
   go_wp2_with fail
   (with_reducible refine A1.out.mono ?_); rintro e v1 ⟨r1, s1, rfl, l1, c1, q1⟩
   replace HR := Ho.mk (HR.out.grow q1)
   have A2 := Ho.mk (dAtN (k := j) v1 (HXL.out ▸ HR.out.blk 3 rfl) (HXL.out ▸ HX.out.bel HR.out.bel) (by have := HXL.out; have := HN2.out; omega) (by have := HXL.out; omega))
   have Q1 := Ho.mk q1
   have C1 := Ho.mk (And.intro l1 c1)
   clear A1 q1 l1 c1
   go_wp2_with fail
   (with_reducible refine A2.out.mono ?_); rintro e v2 ⟨r2, s2, rfl, l2, c2, q2⟩
   replace HR := Ho.mk (HR.out.grow q2)
   replace Q1 := Ho.mk (Q1.out.trans q2)
   have C2 := Ho.mk (And.intro l2 c2)
   have A3 := Ho.mk (dMade v2 C1.out.1.1 C1.out.1.2 C2.out.1.1 C2.out.1.2)
   clear A2 q2 l2 c2
   go_wp2_with fail
   (with_reducible refine A3.out.mono ?_); rintro e v3 ⟨bm, nm, r3, s3, t3, u3, rfl, ms, l3, c3, q3⟩
   replace HR := Ho.mk (HR.out.grow q3)
   replace Q1 := Ho.mk (Q1.out.trans q3)
   have MS := Ho.mk ms
   have C3 := Ho.mk (And.intro l3 c3)
   clear A3 q3 l3 c3 ms
   go_upto_region 14 with fail
   refine wp_region_held_drew (S := fun w' => Bel v3 w') (by kernel_rfl) (Bel.refl _).drew (fun hHeld => ?_)
   (try dsimp only at hHeld)
   generalize v3.drew = wx at *
   have n0 := trivial
   repeat' (first
    |
     clear t4
     go_simp
     have le_pE := hHeld.size
     refine hK.out _ _ (Bel.alloc hHeld _) (fun hHeld => ?_)
     clear hK K
     have KE := Ho.mk (Blk.new wx [.float .f64 0, .float .f64 0] 48)
     have ga := (Bel.refl wx).alloc (.cells #[.float .f64 0, .float .f64 0] 48)
     try have KT := Ho.mk (KT.out.bel ga)
     try have lt_pT := Nat.lt_of_lt_of_le lt_pT ga.size
     clear ga
     have lt_pE : wx.heap.size < (World.alloc wx (.cells #[.float .f64 0, .float .f64 0] 48)).heap.size := by rw [World.size_alloc]; exact Nat.lt_succ_self _
     try have ne_pT_pE : pT ≠ wx.heap.size := by omega
     generalize wx.heap.size = pE at *
     generalize World.alloc wx (.cells #[.float .f64 0, .float .f64 0] 48) = wx at *
     try simp only [Act.put, Ow.zS, Ow.zC, Ow.zD]
    |
     clear t5
     go_simp
     have le_pT := hHeld.size
     refine hK.out _ _ (Bel.alloc hHeld _) (fun hHeld => ?_)
     clear hK K
     have KT := Ho.mk (Blk.new wx [.float .f64 0, .float .f64 0] 48)
     have ga := (Bel.refl wx).alloc (.cells #[.float .f64 0, .float .f64 0] 48)
     try have KE := Ho.mk (KE.out.bel ga)
     try have lt_pE := Nat.lt_of_lt_of_le lt_pE ga.size
     clear ga
     have lt_pT : wx.heap.size < (World.alloc wx (.cells #[.float .f64 0, .float .f64 0] 48)).heap.size := by rw [World.size_alloc]; exact Nat.lt_succ_self _
     try have ne_pE_pT : pE ≠ wx.heap.size := by omega
     generalize wx.heap.size = pT at *
     generalize World.alloc wx (.cells #[.float .f64 0, .float .f64 0] 48) = wx at *
     try simp only [Act.put, Ow.zS, Ow.zC, Ow.zD]
    |
     clear t6
     go_simp
     have KT := Ho.mk ((KT.out.far (p := ⟨pE, 0, none⟩) (by dsimp only; omega) (.float .f64 r3)).far (p := ⟨pE, 1, none⟩) (by dsimp only; omega) (.float .f64 s3))
     have KE := Ho.mk ((KE.out.set 0 (.float .f64 r3)).set 1 (.float .f64 s3))
     simp only [List.set_cons_zero, List.set_cons_succ] at KE
     refine hK.out _ _ ⟨((hHeld.out.setCell (p := ⟨pE, 0, none⟩) (by dsimp only; omega) (.float .f64 r3)).setCell (p := ⟨pE, 1, none⟩) (by dsimp only; omega) (.float .f64 s3))⟩ (fun hHeld => ?_)
     clear hK K y0 x0 y1 x1
     have lt_pE : pE < (World.setCell (World.setCell wx ⟨pE, 0, none⟩ (.float .f64 r3)) ⟨pE, 1, none⟩ (.float .f64 s3)).heap.size := by simpa [World.setCell] using lt_pE
     have lt_pT : pT < (World.setCell (World.setCell wx ⟨pE, 0, none⟩ (.float .f64 r3)) ⟨pE, 1, none⟩ (.float .f64 s3)).heap.size := by simpa [World.setCell] using lt_pT
     generalize World.setCell (World.setCell wx ⟨pE, 0, none⟩ (.float .f64 r3)) ⟨pE, 1, none⟩ (.float .f64 s3) = wx at *
     try simp only [Act.put, Ow.zS, Ow.zC, Ow.zD]
    |
     clear t7
     go_simp
     have KE := Ho.mk ((KE.out.far (p := ⟨pT, 0, none⟩) (by dsimp only; omega) (.float .f64 t3)).far (p := ⟨pT, 1, none⟩) (by dsimp only; omega) (.float .f64 u3))
     have KT := Ho.mk ((KT.out.set 0 (.float .f64 t3)).set 1 (.float .f64 u3))
     simp only [List.set_cons_zero, List.set_cons_succ] at KT
     refine hK.out _ _ ⟨((hHeld.out.setCell (p := ⟨pT, 0, none⟩) (by dsimp only; omega) (.float .f64 t3)).setCell (p := ⟨pT, 1, none⟩) (by dsimp only; omega) (.float .f64 u3))⟩ (fun hHeld => ?_)
     clear hK K y0 x0 y1 x1
     have lt_pE : pE < (World.setCell (World.setCell wx ⟨pT, 0, none⟩ (.float .f64 t3)) ⟨pT, 1, none⟩ (.float .f64 u3)).heap.size := by simpa [World.setCell] using lt_pE
     have lt_pT : pT < (World.setCell (World.setCell wx ⟨pT, 0, none⟩ (.float .f64 t3)) ⟨pT, 1, none⟩ (.float .f64 u3)).heap.size := by simpa [World.setCell] using lt_pT
     generalize World.setCell (World.setCell wx ⟨pT, 0, none⟩ (.float .f64 t3)) ⟨pT, 1, none⟩ (.float .f64 u3) = wx at *
     try simp only [Act.put, Ow.zS, Ow.zC, Ow.zD]
    |
     clear n5
     refine wpAnyH_done (by kernel_rfl) ?_ _
    |
     clear n4
     obtain ⟨y0, y1⟩ := KT.out.c2
     have x0 := KT.out.free 0
     have x1 := KT.out.free 1
     refine rc (i := 7) (fun K hK => have t7 := trivial; have n5 := trivial; ?_)
    |
     clear n3
     obtain ⟨y0, y1⟩ := KE.out.c2
     have x0 := KE.out.free 0
     have x1 := KE.out.free 1
     refine rc (i := 6) (fun K hK => have t6 := trivial; have n4 := trivial; ?_)
    |
     clear n1
     refine rc (i := 5) (fun K hK => have t5 := trivial; have n3 := trivial; ?_)
    |
     clear n2
     refine rc (i := 4) (fun K hK => have t4 := trivial; have n3 := trivial; ?_)
    |
     clear n0
     refine rt (i := 0) hHeld ?_
     refine rl (i := 1) (v := ?_) hHeld (fun w hSw => ?_) ?_
     rotate_left
     ·(have z0 := (MS.out.bel hSw).even; go_simp; try (with_reducible rfl))
     refine rt (i := 2) hHeld ?_
     refine rl (i := 3) (v := ?_) hHeld (fun w hSw => ?_) ?_
     rotate_left
     ·(have z0 := (MS.out.bel hSw).odd; go_simp; try (with_reducible rfl))
     try simp only [Act.put, Ow.zS, Ow.zC, Ow.zD]
     refine I6.rc2 (i := 4) (j := 5) (fun K hK => have t4 := trivial; have n1 := trivial; ?_) (fun K hK => have t5 := trivial; have n2 := trivial; ?_))
   all_goals
    skip
    replace HR := Ho.mk (HR.out.grow hHeld)
    replace Q1 := Ho.mk (Q1.out.trans hHeld)
    clear hHeld MS
    obtain ⟨v4, rfl⟩ : ∃ v4, v4 = wx := ⟨_, rfl⟩
    obtain ⟨yt0, yt1⟩ := KT.out.c2
    obtain ⟨y90, y91⟩ := (HR.out.blk 2 rfl).c2
    obtain ⟨wr', ywr, lwr, cwr⟩ := (HR.out.whole 0 rfl).at_ (i := k) (by simp; omega)
    obtain ⟨wi', ywi, lwi, cwi⟩ := (HR.out.whole 1 rfl).at_ (i := k) (by simp; omega)
    rw [nthN_lt (by simp; omega)] at cwr cwi
    simp only [List.getElem_map, List.getElem_range] at cwr cwi
    have CW := Ho.mk (And.intro cwr cwi)
    have CM := Ho.mk (fun w => Ps.dCMul w C3.out.1.2.1 C3.out.1.2.2 lwr lwi)
    clear lwr lwi cwr cwi
    go_upto_region 15 with fail
    refine wp_region_held_drew (S := fun w' => Bel v4 w') (by kernel_rfl) (Bel.refl _).drew (fun hHeld => ?_)
    (try dsimp only at hHeld)
    refine rt (i := 0) hHeld ?_
    refine rl (i := 1) (v := ?_) hHeld (fun w' hSw => ?_) ?_
    rotate_left
    ·(have z0 := hSw.cell yt0; go_simp; try (with_reducible rfl))
    refine rt (i := 2) hHeld ?_
    refine rl (i := 3) (v := ?_) hHeld (fun w' hSw => ?_) ?_
    rotate_left
    ·(have z0 := hSw.cell yt1; go_simp; try (with_reducible rfl))
    refine rt (i := 4) hHeld ?_
    refine rl (i := 5) (v := ?_) hHeld (fun w' hSw => ?_) ?_
    rotate_left
    ·(have z0 := hSw.cell y90; go_simp; try (with_reducible rfl))
    refine rt (i := 6) hHeld ?_
    refine rt (i := 7) hHeld ?_
    refine rl (i := 8) (v := ?_) hHeld (fun w' hSw => ?_) ?_
    rotate_left
    ·(have z0 := hSw.cell ywr; go_simp; try (with_reducible rfl))
    refine rt (i := 9) hHeld ?_
    refine rl (i := 10) (v := ?_) hHeld (fun w' hSw => ?_) ?_
    rotate_left
    ·(have z0 := hSw.cell y91; go_simp; try (with_reducible rfl))
    refine rt (i := 11) hHeld ?_
    refine rt (i := 12) hHeld ?_
    refine rl (i := 13) (v := ?_) hHeld (fun w' hSw => ?_) ?_
    rotate_left
    ·(have z0 := hSw.cell ywi; go_simp; try (with_reducible rfl))
    try simp only [Act.put, Ow.zS, Ow.zC, Ow.zD]
    refine rc (i := 14) (fun K hK => ?_)
    go_simp
    go_at_call 44
    (with_reducible refine (CM.out _).mono ?_); rintro e v5 ⟨r5, s5, rfl, l5, c5, q5⟩
    try go_wp2_with fail
    refine hK.out _ _ (Bel.trans hHeld q5) (fun hHeld => ?_)
    clear hK K
    refine rt (i := 15) hHeld ?_
    refine rt (i := 16) hHeld ?_
    refine rt (i := 17) hHeld ?_
    refine rt (i := 18) hHeld ?_
    refine rt (i := 19) hHeld ?_
    try simp only [Act.put, Ow.zS, Ow.zC, Ow.zD]
    refine wpAnyH_done (by kernel_rfl) ?_ _
    replace HR := Ho.mk (HR.out.grow hHeld)
    replace Q1 := Ho.mk (Q1.out.trans hHeld)
    have KE5 := Ho.mk (KE.out.bel hHeld)
    have C5 := Ho.mk (And.intro l5 c5)
    obtain ⟨ye0, ye1⟩ := KE5.out.c2
    have S6 := Ho.mk (fun w => P0.dOSub w C3.out.1.1.1 C5.out.1.2)
    have A7 := Ho.mk (fun w => P0.dOAdd w C3.out.1.1.2 C5.out.1.1)
    replace ZR := Ho.mk (ZR.out.bel Q1.out)
    replace CR : Ho (Cz B bz w5 v5) := ⟨CR.out.bel Q1.out⟩
    have hB5' : B ≤ v5.heap.size := Nat.le_trans hBr Q1.out.size
    clear CM KE KT yt0 yt1 y90 y91 ywr ywi hHeld q5 l5 c5 Q1
    go_upto_region 16 with fail
    refine I7.wp_region_late 10 (S := fun w' => Bel v5 w') (by kernel_rfl) (Bel.refl _).drew (fun hHeld => ?_)
    (try dsimp only at hHeld)
    refine I7.kt (i := 0) hHeld ?_
    refine I7.kt (i := 1) hHeld ?_
    refine I7.kl (i := 2) (v := ?_) hHeld (fun w' hSw => ?_) ?_
    rotate_left
    ·(have z0 := hSw.cell ye0; go_simp; try (with_reducible rfl))
    refine I7.kt (i := 3) hHeld ?_
    refine I7.kt (i := 5) hHeld ?_
    refine I7.kl (i := 6) (v := ?_) hHeld (fun w' hSw => ?_) ?_
    rotate_left
    ·(have z0 := hSw.cell ye1; go_simp; try (with_reducible rfl))
    refine I7.kt (i := 7) hHeld ?_
    try simp only [Act.put, Ow.zS, Ow.zC, Ow.zD]
    refine I7.kc (i := 4) (fun K hK => ?_)
    go_simp
    go_at_call 42
    (with_reducible refine (S6.out _).mono ?_); rintro e v6 ⟨r6, rfl, l6, c6, q6⟩
    try go_wp2_with fail
    refine hK.out _ _ (Bel.trans hHeld q6) (fun hHeld => ?_)
    clear hK K
    try simp only [Act.put, Ow.zS, Ow.zC, Ow.zD]
    refine I7.kc (i := 8) (fun K hK => ?_)
    go_simp
    go_at_call 41
    (with_reducible refine (A7.out _).mono ?_); rintro e v7 ⟨r7, rfl, l7, c7, q7⟩
    try go_wp2_with fail
    refine hK.out _ _ (Bel.trans hHeld q7) (fun hHeld => ?_)
    clear hK K
    refine I7.kt (i := 9) hHeld ?_
    try simp only [Act.put, Ow.zS, Ow.zC, Ow.zD]
    refine I7.ke (i := 10) (fun K hK => ?_)
    go_simp
    go_at_call 36
    (refine (dPutZ _ (ZR.out.bel hHeld) (by have := hHeld.size; omega) hzB l6 l7 (by rw [zRe_len]; omega) (by rw [zIm_len]; omega)).mono ?_); rintro e v8 ⟨rfl, zz, cz⟩
    try go_wp2_with fail
    refine hK.out _ _ ?_
    clear hK K
    try simp only [Act.put, Ow.zS, Ow.zC, Ow.zD]
    refine wpAny_done (by kernel_rfl) ?_ _
    have C8 : Ho (Cz B bz w5 v8) := ⟨(CR.out.bel hHeld).trans cz⟩
    have eB : backAt M3.opsN (tabW p) m X k = (cn r6, cn r7) := by
     unfold backAt
     rw [if_neg (by omega)]
     unfold backG
     rw [c6, c7, C5.out.2.1, C5.out.2.2, C3.out.2.1.1, C3.out.2.1.2, C3.out.2.2.1, C3.out.2.2.2, C1.out.2.1, C1.out.2.2, C2.out.2.1, C2.out.2.2, CW.out.1, CW.out.2, ← HJ.out]
     rfl
    have Z8 : Ho (Zz B v8 bz (zRe p m X (k + 1)) (zIm p m X (k + 1))) := ⟨by
     have z := zz
     rw [zRe_succ (by rw [eB]), zIm_succ (by rw [eB])] at z
     exact z⟩
    clear zz cz eB hHeld l6 l7 c6 c7 q6 q7 ye0 ye1 KE5 S6 A7 ZR CR
    go_wp2_with fail
    go_roundw
    case rel => exact ⟨k + 1, by omega, by omega, by simp, Z8, C8⟩
    case measure => simp [intOf]; omega
  ·obtain rfl : m = k := by omega
   obtain ⟨wo, rfl⟩ : ∃ wo : World, wo = wr := ⟨_, rfl⟩
   obtain ⟨v0, v1, KZ, hu, hv, d0, d1⟩ := ZR.out.out
   have R0 := Y3.Og.rowF (B := B) hu d0
   have R1 := Y3.Og.rowF (B := B) hv (fun g q => (d1 g q).1)
   obtain ⟨g0, e0, rfl, le0, lc0, f0, ge0⟩ := R0.at_ (by rw [zRe_len]; exact hm1)
   obtain ⟨g1, e1, rfl, le1, lc1, f1, ge1⟩ := R1.at_ (by rw [zIm_len]; exact hm1)
   have ne01 : g0 ≠ g1 := fun q => (d1 g1 rfl).2 (by rw [← q]; rfl)
   rw [zRe_len] at le0
   rw [zIm_len] at le1
   rw [zRe_len, zIm_len] at KZ
   have ez : irfftZ p X = (zRe p m X m, zIm p m X m) := by unfold irfftZ zRe zIm; rw [HM.out]
   have LZa := zRe_len p m X m
   have LZb := zIm_len p m X m
   generalize zRe p m X m = Za at *
   generalize zIm p m X m = Zb at *
   obtain ⟨yz0, yz1⟩ := KZ.c2
   have KZ := Ho.mk KZ
   have LE := Ho.mk (And.intro (And.intro le0 le1) (And.intro lc0 lc1))
   have GE := Ho.mk (And.intro (And.intro ge0 ge1) ne01)
   have C7 := Ho.mk (dInvInto (p := p - 1) (N := m) wo (TT.out.bel HR.out.bel) f0 f1 ne01 HM.out LZa LZb (by omega) le0 le1 lc0 lc1)
   have LL := Ho.mk (Z2.invN_len1 (p := p - 1) (X := Za) (Y := Zb) (by rw [← HM.out]; exact LZa) (by rw [← HM.out]; exact LZb))
   rw [← HM.out] at LL
   have EZ := Ho.mk (show zipG (m + m) (invN (p - 1) (Za, Zb)).1 (invN (p - 1) (Za, Zb)).2 = irfftN p X by unfold irfftN; rw [ez, ← HP.out, HN2.out, Nat.two_mul])
   clear hu hv d0 d1 R0 R1 le0 le1 lc0 lc1 ge0 ge1 ne01 ez LZa LZb f0 f1 ZR
   go_wp2_with fail
   (with_reducible refine C7.out.mono ?_); rintro e w7 ⟨rfl, i0, i1, G⟩
   have C7' : Cz B bz wo w7 := ⟨G.os, G.tape, G.output, G.size, fun k hk hn => G.block k hk (fun q => hn (Or.inr (q ▸ GE.out.1.1))) (fun q => hn (Or.inr (q ▸ GE.out.1.2)))⟩
   replace HR := Ho.mk (hp_cz HR.out C7' HLL.out hzw hwB)
   replace KZ := Ho.mk (G.blk KZ.out (by have := GE.out.1.1; omega) (by have := GE.out.1.2; omega))
   have C8 := dZip (n := m) w7 (fz_i4 i0 LL.out.1 (by omega) LE.out.1.1 LE.out.2.1) (fz_i4 i1 LL.out.2 (by omega) LE.out.1.2 LE.out.2.2) LL.out.1 LL.out.2 hm1 (by omega)
   rw [EZ.out] at C8
   have C8 := Ho.mk C8
   obtain ⟨ZR, hZR⟩ : ∃ L, L = irfftN p X := ⟨_, rfl⟩
   rw [← hZR] at C8
   have HZR := Ho.mk hZR
   clear C7 C7' i0 i1 G yz0 yz1 hZR EZ LL
   obtain ⟨yz0, yz1⟩ := KZ.out.c2
   go_wp2_with fail
   (with_reducible refine C8.out.mono ?_); rintro e w8 ⟨A8, c8, rfl, r8, b8⟩
   have hb8 : b1 < w7.heap.size := by have := HR.out.ltI 3 rfl; exact this
   have hb9 : w.heap.size ≤ b1 := by have := HR.out.geI 3 rfl; exact this
   replace HR := Ho.mk (HR.out.grow b8)
   have R8 := Ho.mk r8
   clear C8 r8 b8 yz0 yz1 KZ
   have y1 := (HR.out.blk 3 rfl).cell (i := 0) rfl
   have x1 := (HR.out.blk 3 rfl).free 0
   go_upto_region 19 with fail
   have KF := (HR.out.blk 3 rfl).set 0 (.slice A8 ZR.length c8)
   simp only [List.set_cons_zero] at KF
   have RF := Ho.mk ((R8.out.far (p := ⟨b1, 0, none⟩) hb8 (.slice A8 ZR.length c8)).mono (show w.heap.size ≤ w7.heap.size by omega))
   have BF : Ho (Bel w (w8.setCell ⟨b1, 0, none⟩ (.slice A8 ZR.length c8))) := ⟨⟨HR.out.bel.out.setCell (p := ⟨b1, 0, none⟩) hb9 _⟩⟩
   clear y1 x1
   generalize w8.setCell ⟨b1, 0, none⟩ (.slice A8 ZR.length c8) = w9 at *
   have y1 := KF.cell (i := 0) rfl
   clear KF
   go_wp2
   go_ret2
   obtain rfl := HZR.out
   exact ⟨A8, c8, rfl, RF.out, BF.out⟩
theorem dIrfftBad {A : Option Addr} {c n : Nat} (w : World) (hn : n ≤ 128) (hb : okR n = false) :
  Calls Tryz.prog 17 #[.slice A n c] w fun e w' => e = .returned (.tuple #[.slice none 0 0, .int .i64 2]) ∧ Bel w w' := by
 have hl := logI_bad hb
 have BW := Ho.mk ((((Bel.refl w).alloc (.cells #[.slice A n c] 25)).alloc (.cells #[.slice none 0 0, .slice none 0 0] 46)).alloc (.cells #[.slice none 0 0, .slice none 0 0] 46))
 have hn3 : ¬ (1024 : Int) < (n : Int) := by omega
 have hcase : (n : Int) < 2 ∨ (¬ (n : Int) < 2 ∧ ¬ bits .and .i64 (n : Int) ((n : Int) - 1) = 0) := by
  by_cases h : (n : Int) < 2
  ·exact .inl h
  ·refine .inr ⟨h, fun e => ?_⟩
   have h0 : n ≠ 0 := by omega
   have h2 := (log_fact (n := n) (by omega) h0).1.1 e
   unfold logI at hl
   rw [if_pos ⟨h0, h2, by omega⟩] at hl
   have : Nat.log2 n = 0 := by omega
   rw [this] at h2
   omega
 clear hb hl
 have hcase2 : (n : Int) < 2 ∨ (¬ (n : Int) < 2 ∧ (bits .and .i64 (n : Int) ((n : Int) - 1) != 0) = true) := hcase.imp id fun ⟨a, b⟩ => ⟨a, by simp [b]⟩
 clear hcase
 rcases hcase2 with h | ⟨h, h'⟩
 all_goals
  go_enter Tryz.func17, Tryz.ntmps17
  go_upto_region 1 with fail
  refine wp_scope_jumps 0 (fun a' w' => a'.tmps.size = 115 ∧ a'.defers = [] ∧ Bel w w') (fun _ _ => 0) rfl ?first ?pass
  case first =>
   go_upto_region 7 with fail
   go_wp2_with fail
   (try go_step3)
   exact ⟨rfl, rfl, rfl, BW.out⟩
  case pass =>
   rintro a' w' ⟨hs, hd, hb⟩
   go_wp2_with fail
   show bodyPost Tryz.prog Tryz.f17 (fun e w' => e = .returned (.tuple #[.slice none 0 0, .int .i64 2]) ∧ Bel w w') .ret _ _
   refine bodyPost_ret (fn := Tryz.f17) (results_tmp2 (fn := Tryz.f17) rfl _ _ _) ?_ ?_
   ·first | exact hd | rfl
   ·refine ⟨?_, hb⟩
    simp [Array.getD_eq_getD_getElem?, Array.getElem?_setIfInBounds, hs]
def irR (X : List Nat) : List Nat := if okR X.length then irfftN (Nat.log2 X.length) X else []
theorem dIrfft {A : Option Addr} {c : Nat} {X : List Nat} (w : World) (T : Tab w) (hx : In w (.slice A X.length c) X) (hl : X.length ≤ 128) :
  Calls Tryz.prog 17 #[.slice A X.length c] w (MakesRE w (irR X) (errF X)) := by
 unfold irR errF
 cases hb : okR X.length with
 | true =>
  obtain ⟨h1, h2, _⟩ := okR_pow hb
  obtain ⟨ad, rfl⟩ := in_some hx (by rw [h1]; exact Nat.two_pow_pos _)
  exact dIrfftOk w T hx rfl h1 h2 (log_7 hl h1)
 | false =>
  refine (dIrfftBad w hl hb).mono ?_
  rintro e w' ⟨rfl, g⟩
  exact ⟨none, 0, rfl, RowF.nil _ _ _ _ (by decide), g⟩
end K4
namespace Le
open Ieee Go Go.RowKit Go.Proofs Go.Proofs.YtalbgklfhabnkaaGreatDoor Ow Dt Gp I0 U0 W0 S4 S6 P0 M0 M1 M3 W4 W5 V2 P4 Y3 Yh Y1 P8 Pc Y6 Y8 Pk Lv
open Go.Proofs.YtalbgklfhabnkaaGreatDoor.V1 (NI St ni_same ni_loop St.refl St.of_bel blk_keep ni_blk put_st)
open Go.Proofs.YtalbgklfhabnkaaGreatDoor.C6 (leaveAny)
open Go.Proofs.YtalbgklfhabnkaaGreatDoor.Pg (In)
attribute [local go_sem ↓] Go.wp_at_zero Go.wp_at_succ
section
variable {A B : Option Addr} {n m c c' : Nat} {X Y : List Nat} {w : World}
theorem pSameRow (hx : In w (.slice A n c) X) (hy : In w (.slice B m c') Y) (l1 : X.length ≤ 100000) (l2 : Y.length ≤ 100000) {z : Bool} (hz : z = decide (X = Y)) :
  Calls Tryz.prog 20 #[.slice A n c, .slice B m c'] w (fun e w' => e = .returned (.bool z) ∧ Bel w w') := by
 rw [hz]; exact dSameRowI w hx hy l1 l2
end
theorem h1 : rfR [4607182418800017408, 4611686018427387904, 4613937818241073152, 4616189618054758400] = [4621819117588971520, 13835058055282163712, 13835058055282163712, 4611686018427387904] ∧ errF [4607182418800017408, 4611686018427387904, 4613937818241073152, 4616189618054758400] = 0 := by decide +kernel
theorem h2 : rfR [4607182418800017408, 4611686018427387904, 4613937818241073152] = [] ∧ errF [4607182418800017408, 4611686018427387904, 4613937818241073152] = 2 := by decide +kernel
end Le
namespace Y9
open Ieee Go Go.RowKit Go.Proofs Go.Proofs.YtalbgklfhabnkaaGreatDoor Ow Gp Gq Gr G1 G3 I0 W0 W1 W2 P0 Po Y2 Y3 W5
open Go.Proofs.YtalbgklfhabnkaaGreatDoor.Pq (ord_c ge_c le_c)
open Go.Proofs.YtalbgklfhabnkaaGreatDoor.Pg (In)
attribute [local go_sem ↓] Go.wp_at_zero Go.wp_at_succ
theorem tm_mid {r : Nat} (h : r < 2 * sgnW) (hf : frung r ≤ infR) (hm : V r = 0 ∨ (mag (P2 983) ≤ (V r).natAbs ∧ (V r).natAbs ≤ mag (P2 1063))) : Tm (cn r) := by
 have hb : infR = 2047 * bn := by decide
 rcases hm with h0 | ⟨h1, h2⟩
 ·have e : frung r = 0 := by
   have := V_abs r
   rw [h0] at this
   exact mag_inj (by rw [← this, mag_zero]; rfl)
  have : cn r = 0 := by unfold cn; rw [if_neg (by omega), if_pos e]
  rw [this]
  exact ⟨nm_zero, .inl rfl⟩
 ·rw [V_abs, mag_le] at h1 h2
  have q1 := h1
  have q2 := h2
  unfold P2 at h1 h2
  have hpos : 0 < bn := by decide
  have hlt : frung r < infR := by omega
  have e : cn r = r := by unfold cn; rw [if_neg (by omega), if_neg (by omega)]
  rw [e]
  exact ⟨⟨h, hlt, e⟩, .inr ⟨q1, q2⟩⟩
theorem V_c1 : V 4427038433705197568 = (mag (P2 983) : Int) := by decide +kernel
theorem V_c2 : V 4787326403894837248 = (mag (P2 1063) : Int) := by decide +kernel
theorem V_c3 : V 13650410470559973376 = -(mag (P2 983) : Int) := by decide +kernel
theorem V_c4 : V 14010698440749613056 = -(mag (P2 1063) : Int) := by decide +kernel
theorem pass0 {r : Nat} (h : r < 2 * sgnW) (e : (FloatKind.f64.format.order r 0 == some .eq) = true) : Tm (cn r) := by
 obtain ⟨a, b⟩ := ord_c (c := 0) (v := 0) h (by decide) (by decide) (by decide) (by cases q : FloatKind.f64.format.order r 0 <;> simp_all)
 refine tm_mid h a (.inl ?_)
 rw [b, cmp_int] at e
 split at e
 ·simp at e
 ·split at e
  ·assumption
  ·simp at e
theorem pass1 {r : Nat} (h : r < 2 * sgnW) (e1 : (FloatKind.f64.format.order r 4427038433705197568 == some .gt || FloatKind.f64.format.order r 4427038433705197568 == some .eq) = true) (e2 : (FloatKind.f64.format.order r 4787326403894837248 == some .lt || FloatKind.f64.format.order r 4787326403894837248 == some .eq) = true) : Tm (cn r) := by
 obtain ⟨a, b⟩ := ge_c h (by decide) (by decide) V_c1 e1
 obtain ⟨_, b2⟩ := le_c h (by decide) (by decide) V_c2 e2
 exact tm_mid h a (.inr ⟨by omega, by omega⟩)
theorem pass2 {r : Nat} (h : r < 2 * sgnW) (e1 : (FloatKind.f64.format.order r 13650410470559973376 == some .lt || FloatKind.f64.format.order r 13650410470559973376 == some .eq) = true) (e2 : (FloatKind.f64.format.order r 14010698440749613056 == some .gt || FloatKind.f64.format.order r 14010698440749613056 == some .eq) = true) : Tm (cn r) := by
 obtain ⟨a, b⟩ := le_c h (by decide) (by decide) V_c3 e1
 obtain ⟨_, b2⟩ := ge_c h (by decide) (by decide) V_c4 e2
 exact tm_mid h a (.inr ⟨by omega, by omega⟩)
theorem dTame {A : Option Addr} {n c : Nat} {X : List Nat} (W0 : World) (hx : Fr W0 A X) (hn : X.length = n) (hl : n ≤ 100000) :
  Calls Tryz.prog 18 #[.slice A n c] W0 (fun e w' => ∃ z, e = .returned (.bool z) ∧ Bel W0 w' ∧ (z = true → ∀ i, i < n → Tm (nthN X i))) := by
 have FX := Ho.mk hx
 have HN := Ho.mk hn
 clear hx hn
 go_enter Tryz.func18, Tryz.ntmps18
 go_wp2_with fail
 go_loopw [3] (fun v wr => ∃ (i : Nat), i ≤ n ∧ v = .int .i64 i ∧ Ho (∀ j, j < i → Tm (nthN X j)) ∧ Ho (Bel W0 wr)) (fun v _ => n - (intOf v).toNat)
 case atStart => exact ⟨0, Nat.zero_le _, rfl, ⟨fun j hj => absurd hj (Nat.not_lt_zero _)⟩, ⟨Bel.refl _⟩⟩
 case round =>
  obtain ⟨i, hi, rfl, HT, HW⟩ := hrel
  rcases Nat.lt_or_ge i n with hlt | hge
  ·obtain ⟨a1, r, rfl, y1, l1, c1⟩ := FX.out.at_ (i := i) (by rw [HN.out]; exact hlt)
   have y1 := HW.out.cell y1
   have L1 := Ho.mk l1
   have C1 := Ho.mk c1
   clear l1 c1
   cases h0 : (FloatKind.f64.format.order r 0 == some .eq) with
   | true =>
    have UP := Ho.mk (pass0 L1.out h0)
    go_wp2
    go_roundw
    case rel => exact ⟨i + 1, by omega, by simp, ⟨fun j hj => by rcases Nat.lt_or_ge j i with l | l; exact HT.out j l; rw [show j = i by omega, ← C1.out]; exact UP.out⟩, HW⟩
    case measure => simp [intOf]; omega
   | false =>
    cases h1 : (FloatKind.f64.format.order r 4427038433705197568 == some .gt || FloatKind.f64.format.order r 4427038433705197568 == some .eq) with
    | true =>
     cases h2 : (FloatKind.f64.format.order r 4787326403894837248 == some .lt || FloatKind.f64.format.order r 4787326403894837248 == some .eq) with
     | true =>
      have UP := Ho.mk (pass1 L1.out h1 h2)
      go_wp2
      go_roundw
      case rel => exact ⟨i + 1, by omega, by simp, ⟨fun j hj => by rcases Nat.lt_or_ge j i with l | l; exact HT.out j l; rw [show j = i by omega, ← C1.out]; exact UP.out⟩, HW⟩
      case measure => simp [intOf]; omega
     | false =>
      cases h3 : (FloatKind.f64.format.order r 13650410470559973376 == some .lt || FloatKind.f64.format.order r 13650410470559973376 == some .eq) with
      | true =>
       cases h4 : (FloatKind.f64.format.order r 14010698440749613056 == some .gt || FloatKind.f64.format.order r 14010698440749613056 == some .eq) with
       | true =>
        have UP := Ho.mk (pass2 L1.out h3 h4)
        go_wp2
        go_roundw
        case rel => exact ⟨i + 1, by omega, by simp, ⟨fun j hj => by rcases Nat.lt_or_ge j i with l | l; exact HT.out j l; rw [show j = i by omega, ← C1.out]; exact UP.out⟩, HW⟩
        case measure => simp [intOf]; omega
       | false =>
        go_wp2
        go_ret
        exact ⟨false, rfl, HW.out, fun e => by cases e⟩
      | false =>
       go_wp2
       go_ret
       exact ⟨false, rfl, HW.out, fun e => by cases e⟩
    | false =>
     cases h3 : (FloatKind.f64.format.order r 13650410470559973376 == some .lt || FloatKind.f64.format.order r 13650410470559973376 == some .eq) with
     | true =>
      cases h4 : (FloatKind.f64.format.order r 14010698440749613056 == some .gt || FloatKind.f64.format.order r 14010698440749613056 == some .eq) with
      | true =>
       have UP := Ho.mk (pass2 L1.out h3 h4)
       go_wp2
       go_roundw
       case rel => exact ⟨i + 1, by omega, by simp, ⟨fun j hj => by rcases Nat.lt_or_ge j i with l | l; exact HT.out j l; rw [show j = i by omega, ← C1.out]; exact UP.out⟩, HW⟩
       case measure => simp [intOf]; omega
      | false =>
       go_wp2
       go_ret
       exact ⟨false, rfl, HW.out, fun e => by cases e⟩
     | false =>
      go_wp2
      go_ret
      exact ⟨false, rfl, HW.out, fun e => by cases e⟩
  ·obtain rfl : i = n := by omega
   go_wp2
   go_ret
   exact ⟨true, rfl, HW.out, fun _ => HT.out⟩
def scl (q : Nat) (X : List Nat) : List Nat := X.map fun x => fmul x q
theorem scl_len (q : Nat) (X : List Nat) : (scl q X).length = X.length := by simp [scl]
theorem dScaled {A : Option Addr} {n c q : Nat} {X : List Nat} (w : World) (hx : In w (.slice A n c) X) (hn : X.length = n) (hl : n ≤ 1000) (hq : q < 2 * sgnW) :
  Calls Tryz.prog 19 #[.slice A n c, .float .f64 q] w (MakesF w (scl (cn q) X)) := by
 obtain ⟨A1, c1, e, _, _, hfr, _⟩ := hx.out
 simp only [Value.slice.injEq] at e
 obtain ⟨rfl, e2, e3⟩ := e
 clear e2 e3
 have FX := Ho.mk hfr
 have HN := Ho.mk hn
 have MU := Ho.mk (fun (a : Nat) (h : a < 2 * sgnW) (w : World) => run_fmul (P := Tryz.prog) 22 h hq w)
 clear hx hn hfr hq
 go_enter Tryz.func19, Tryz.ntmps19
 go_wp2_with fail
 go_loopw [5, 6] (fun u v wr => ∃ (i : Nat) (B : Option Addr) (d : Nat), i ≤ n ∧ v = .int .i64 i ∧ u = .slice B i d ∧ Ho (Og wr (.slice B i d) (scl (cn q) (X.take i))) ∧ Ho (∀ g, (Value.slice B i d).ownBlock = some g → w.heap.size ≤ g) ∧ Ho (Bel w wr)) (fun _ v _ => n - (intOf v).toNat)
 case atStart => exact ⟨0, none, 0, Nat.zero_le _, rfl, rfl, ⟨Og.nil _⟩, ⟨fun g hg => by cases hg⟩, ⟨Bel.refl _⟩⟩
 case round =>
  obtain ⟨i, B, d, hi, rfl, rfl, HO, HG, HB⟩ := hrel
  rcases Nat.lt_or_ge i n with hlt | hge
  ·obtain ⟨a1, r, rfl, y1, l1, c1⟩ := FX.out.at_ (i := i) (by rw [HN.out]; exact hlt)
   have y1 := HB.out.cell y1
   have C1 := Ho.mk c1
   obtain ⟨p, wm, hm, hb, pl, pc⟩ := MU.out r l1 wr
   have PC := Ho.mk (And.intro pl pc)
   have BM := Ho.mk (drew_bel wr hb)
   have OM := Ho.mk (HO.out.bel BM.out)
   have hZ : scl (cn q) (X.take (i + 1)) = scl (cn q) (X.take i) ++ [cn p] := by
    have hlt2 : i < X.length := by rw [HN.out]; exact hlt
    unfold scl
    rw [List.take_add_one, List.getElem?_eq_getElem hlt2, List.map_append, PC.out.2, C1.out, nthN_lt hlt2]; rfl
   have lZ : (scl (cn q) (X.take i)).length = i := by rw [scl_len, List.length_take, HN.out]; omega
   have lZ2 : (scl (cn q) (X.take (i + 1))).length = i + 1 := by rw [scl_len, List.length_take, HN.out]; omega
   have HL := Ho.mk (And.intro lZ (And.intro lZ2 hZ))
   have z9 := (Blk.new wm [.float .f64 p] 22).cell (i := 0) rfl
   have BA := Ho.mk ((Bel.refl wm).alloc (.cells #[.float .f64 p] 22))
   clear l1 c1 hb pl pc lZ lZ2 hZ
   go_wp2_with (at_builtin; refine wpList_appA rfl _ _ rfl (OM.out.bel BA.out) rfl rfl z9 PC.out.1 (by rw [HL.out.1]; omega) HL.out.2.2 ?_; intro tA tc w3 ho ha; rw [HL.out.2.1] at ho ha ⊢; have HO3 := Ho.mk ho; have HA3 := Ho.mk ha; clear z9 ho ha hm)
   have HB3 := Ho.mk (HA3.out.bel ((HB.out.trans BM.out).trans BA.out) HG.out)
   have HG3 := Ho.mk (fun g (hg : (Value.slice tA (i + 1) tc).ownBlock = some g) => show w.heap.size ≤ g from by
    rcases HA3.out.own with e | e
    ·rw [e] at hg; exact HG.out g hg
    ·rw [e] at hg; cases hg
     have := ((HB.out.trans BM.out).trans BA.out).size
     exact this)
   go_roundw
   case rel => exact ⟨i + 1, tA, tc, by omega, by simp, rfl, HO3, HG3, HB3⟩
   case measure => simp [intOf]; omega
  ·obtain rfl : i = n := by omega
   go_wp2
   go_ret
   have e : X.take i = X := by rw [← HN.out]; exact List.take_length
   have ho := HO.out
   rw [e] at ho
   have l : (scl (cn q) X).length = i := by rw [scl_len, HN.out]
   refine ⟨B, d, by rw [l]; rfl, ?_, HB.out⟩
   rw [l]
   exact ho.rowF HG.out
end Y9
namespace Li
open Ieee Go Go.RowKit Go.Proofs Go.Proofs.YtalbgklfhabnkaaGreatDoor Ow Dt Gp I0 U0 W0 S4 S6 P0 M0 M1 M3 W4 W5 V2 P4 Y3 Yh Y1 P8 Pc Y6 Y8 Pk Lv Le Y2 Y9
open Go.Proofs.YtalbgklfhabnkaaGreatDoor.V1 (NI St ni_same ni_loop St.refl St.of_bel blk_keep ni_blk put_st)
open Go.Proofs.YtalbgklfhabnkaaGreatDoor.C6 (leaveAny)
open Go.Proofs.YtalbgklfhabnkaaGreatDoor.Pg (In)
attribute [local go_sem ↓] Go.wp_at_zero Go.wp_at_succ
def wW (up : Bool) : Nat := if up then 4791830003522207744 else 13681935667951566848
theorem wW_ok (up : Bool) : wW up < 2 * sgnW ∧ cn (wW up) = facW up := by cases up <;> decide +kernel
theorem pTame {A : Option Addr} {n c : Nat} {X : List Nat} {w : World} (hx : In w (.slice A n c) X) (hl : X.length ≤ 100000) :
  Calls Tryz.prog 18 #[.slice A n c] w (fun e w' => ∃ z, e = .returned (.bool z) ∧ Bel w w' ∧ (z = true → ∀ x ∈ X, Tm x)) := by
 have hn := In.len hx
 obtain ⟨A1, c1, e, _, _, hfr, _⟩ := hx.out
 simp only [Value.slice.injEq] at e
 obtain ⟨rfl, _, _⟩ := e
 refine (dTame w hfr hn.symm (by omega)).mono ?_
 rintro e w' ⟨z, rfl, b, h⟩
 refine ⟨z, rfl, b, fun hz x hx => ?_⟩
 obtain ⟨i, hi, rfl⟩ := List.getElem_of_mem hx
 have := h hz i (by omega)
 rwa [nthN_lt hi] at this
theorem pScaled {A : Option Addr} {n c q : Nat} {X : List Nat} {w : World} (hx : In w (.slice A n c) X) (hl : X.length ≤ 1000) (hq : q < 2 * sgnW) {Z : List Nat} (h1 : Z = scl (cn q) X) :
  Calls Tryz.prog 19 #[.slice A n c, .float .f64 q] w (MakesF w Z) := by
 obtain rfl := In.len hx
 rw [h1]; exact dScaled w hx rfl hl hq
end Li
namespace Lk
open Ieee Go Go.RowKit Go.Proofs Go.Proofs.YtalbgklfhabnkaaGreatDoor Ow Dt Gp I0 U0 W0 S4 S6 P0 M0 M1 M3 W4 W5 V2 P4 Y3 Yh Y1 P8 Pc Y6 Y8 Pk Lv Le Li Y2 Y9 Z1 Z2 K4
open Go.Proofs.YtalbgklfhabnkaaGreatDoor.S4 (infoF)
open Go.Proofs.YtalbgklfhabnkaaGreatDoor.W1 (Nm)
open Go.Proofs.YtalbgklfhabnkaaGreatDoor.Pa (upMap upMap_len upMap_zero upMap_set)
open Go.Proofs.YtalbgklfhabnkaaGreatDoor.W2 (P2)
open Go.Proofs.YtalbgklfhabnkaaGreatDoor.V1 (NI St ni_same ni_loop St.refl St.of_bel blk_keep ni_blk put_st)
open Go.Proofs.YtalbgklfhabnkaaGreatDoor.C6 (leaveAny)
open Go.Proofs.YtalbgklfhabnkaaGreatDoor.Pg (In)
attribute [local go_sem ↓] Go.wp_at_zero Go.wp_at_succ
theorem pIrfft {A : Option Addr} {n c : Nat} {X : List Nat} {w : World} (T : Tab w) (hx : In w (.slice A n c) X) (hl : X.length ≤ 128) {Z : List Nat} {z : Int} (h1 : Z = irR X) (h2 : z = errF X) :
  Calls Tryz.prog 17 #[.slice A n c] w (MakesRE w Z z) := by
 obtain rfl := In.len hx
 rw [h1, h2]; exact dIrfft w T hx hl
theorem irR_len {X : List Nat} (hok : okR X.length = true) : (irR X).length = X.length := by
 obtain ⟨h1, h2, _⟩ := okR_pow hok
 unfold irR; rw [if_pos hok, irfftN_len]; exact h1.symm
theorem irR_le (X : List Nat) : (irR X).length ≤ X.length := by
 cases h : okR X.length
 ·unfold irR; rw [h]; simp
 ·rw [irR_len h]; exact Nat.le_refl _
theorem log_6 {n : Nat} (h : n ≤ 64) (h1 : n = 2 ^ Nat.log2 n) : Nat.log2 n ≤ 6 := by
 rcases Nat.lt_or_ge (Nat.log2 n) 7 with q | q
 ·omega
 ·have := Nat.pow_le_pow_right (n := 2) (by omega) q
  rw [← h1] at this; omega
theorem irR_scl {up : Bool} {X : List Nat} (hl : X.length ≤ 64) (H : ∀ x ∈ X, Tm x) : irR (scl (facW up) X) = scl (facW up) (irR X) ∧ errF (scl (facW up) X) = errF X := by
 have hL := scl_len (facW up) X
 refine ⟨?_, by unfold errF; rw [hL]⟩
 unfold irR; rw [hL]
 cases h : okR X.length
 ·rfl
 ·obtain ⟨h1, h2, _⟩ := okR_pow h
  simp only [if_true]
  exact irfft_scale h2 (log_6 hl h1) h1 H
theorem head15_0 : irR [4621819117588971520, 13835058055282163712, 13835058055282163712, 4611686018427387904] = [4607182418800017408, 4611686018427387904, 4613937818241073152, 4616189618054758400] ∧ errF [4621819117588971520, 13835058055282163712, 13835058055282163712, 4611686018427387904] = 0 := by decide +kernel
theorem head15_1 : irR [4607182418800017408] = [] ∧ errF [4607182418800017408] = 2 := by decide +kernel
theorem head15_2 : irR [4613937818241073152, 4607182418800017408] = [4611686018427387904, 4607182418800017408] ∧ errF [4613937818241073152, 4607182418800017408] = 0 := by decide +kernel
theorem head15 (w : World) (T : Tab w) : Calls Tryz.prog 15 #[] w (fun e w' => e = .returned (.bool true) ∧ Bel w w') := by
 have TT := Ho.mk T
 clear T
 go_enter Tryz.func15, Tryz.ntmps15
 go_wp2_with fail
 have K0 := Ho.mk (Blk.new w [.float .f64 4621819117588971520, .float .f64 13835058055282163712, .float .f64 13835058055282163712, .float .f64 4611686018427387904] 22)
 have g1 := Ho.mk ((Bel.refl w).alloc (.cells #[.float .f64 4621819117588971520, .float .f64 13835058055282163712, .float .f64 13835058055282163712, .float .f64 4611686018427387904] 22))
 generalize w.alloc (.cells #[.float .f64 4621819117588971520, .float .f64 13835058055282163712, .float .f64 13835058055282163712, .float .f64 4611686018427387904] 22) = v2 at *
 have R3 := Ho.mk (litRow (X := [4621819117588971520, 13835058055282163712, 13835058055282163712, 4611686018427387904]) K0.out rfl (by decide) (n := 4) rfl (by decide))
 obtain ⟨Z0, hZ0⟩ : ∃ Z : List Nat, Z = [4607182418800017408, 4611686018427387904, 4613937818241073152, 4616189618054758400] := ⟨_, rfl⟩
 have C4 := Ho.mk (pIrfft (TT.out.bel g1.out) (inn R3.out (by decide)) (by decide) (Z := Z0) (z := 0) (hZ0.trans head15_0.1.symm) head15_0.2.symm)
 (with_reducible refine C4.out.mono ?_); rintro e v5 ⟨Q0, c0, rfl, t0, b6⟩
 have b6H := Ho.mk b6
 have T0 := Ho.mk t0
 clear C4 b6 t0
 have HZ0 := Ho.mk hZ0
 clear hZ0
 go_wp2_with fail
 have K1 := Ho.mk (Blk.new v5 [.float .f64 4607182418800017408] 22)
 have g7 := Ho.mk ((Bel.refl v5).alloc (.cells #[.float .f64 4607182418800017408] 22))
 generalize v5.alloc (.cells #[.float .f64 4607182418800017408] 22) = v8 at *
 have R9 := Ho.mk (litRow (X := [4607182418800017408]) K1.out rfl (by decide) (n := 1) rfl (by decide))
 obtain ⟨Z1, hZ1⟩ : ∃ Z : List Nat, Z = [] := ⟨_, rfl⟩
 have C10 := Ho.mk (pIrfft (TT.out.bel ((g1.out.trans b6H.out).trans g7.out)) (inn R9.out (by decide)) (by decide) (Z := Z1) (z := 2) (hZ1.trans head15_1.1.symm) head15_1.2.symm)
 (with_reducible refine C10.out.mono ?_); rintro e v11 ⟨Q1, c1, rfl, t1, b12⟩
 have b12H := Ho.mk b12
 have T1 := Ho.mk t1
 clear C10 b12 t1
 clear hZ1
 go_wp2_with fail
 have K2 := Ho.mk (Blk.new v11 [.float .f64 4613937818241073152, .float .f64 4607182418800017408] 22)
 have g13 := Ho.mk ((Bel.refl v11).alloc (.cells #[.float .f64 4613937818241073152, .float .f64 4607182418800017408] 22))
 generalize v11.alloc (.cells #[.float .f64 4613937818241073152, .float .f64 4607182418800017408] 22) = v14 at *
 have R15 := Ho.mk (litRow (X := [4613937818241073152, 4607182418800017408]) K2.out rfl (by decide) (n := 2) rfl (by decide))
 obtain ⟨Z2, hZ2⟩ : ∃ Z : List Nat, Z = [4611686018427387904, 4607182418800017408] := ⟨_, rfl⟩
 have C16 := Ho.mk (pIrfft (TT.out.bel ((((g1.out.trans b6H.out).trans g7.out).trans b12H.out).trans g13.out)) (inn R15.out (by decide)) (by decide) (Z := Z2) (z := 0) (hZ2.trans head15_2.1.symm) head15_2.2.symm)
 (with_reducible refine C16.out.mono ?_); rintro e v17 ⟨Q2, c2, rfl, t2, b18⟩
 have b18H := Ho.mk b18
 have T2 := Ho.mk t2
 clear C16 b18 t2
 have HZ2 := Ho.mk hZ2
 clear hZ2
 go_wp2_with fail
 have M0 := Ho.mk (Blk.new v17 [.float .f64 4607182418800017408, .float .f64 4611686018427387904, .float .f64 4613937818241073152, .float .f64 4616189618054758400] 22)
 have g19 := Ho.mk ((Bel.refl v17).alloc (.cells #[.float .f64 4607182418800017408, .float .f64 4611686018427387904, .float .f64 4613937818241073152, .float .f64 4616189618054758400] 22))
 generalize v17.alloc (.cells #[.float .f64 4607182418800017408, .float .f64 4611686018427387904, .float .f64 4613937818241073152, .float .f64 4616189618054758400] 22) = v20 at *
 have R21 := Ho.mk (litRow (X := [4607182418800017408, 4611686018427387904, 4613937818241073152, 4616189618054758400]) M0.out rfl (by decide) (n := 4) rfl (by decide))
 have C22 := Ho.mk (pSameRow (z := true) (inn (T0.out.bel ((((g7.out.trans b12H.out).trans g13.out).trans b18H.out).trans g19.out)) (by rw [HZ0.out]; decide)) (inn R21.out (by decide)) (by rw [HZ0.out]; decide) (by decide) (by rw [HZ0.out]; decide))
 (with_reducible refine C22.out.mono ?_); rintro e v23 ⟨rfl, b24⟩
 have b24H := Ho.mk b24
 clear C22 b24
 go_wp2_with fail
 have M1 := Ho.mk (Blk.new v23 [.float .f64 4611686018427387904, .float .f64 4607182418800017408] 22)
 have g25 := Ho.mk ((Bel.refl v23).alloc (.cells #[.float .f64 4611686018427387904, .float .f64 4607182418800017408] 22))
 generalize v23.alloc (.cells #[.float .f64 4611686018427387904, .float .f64 4607182418800017408] 22) = v26 at *
 have R27 := Ho.mk (litRow (X := [4611686018427387904, 4607182418800017408]) M1.out rfl (by decide) (n := 2) rfl (by decide))
 have C28 := Ho.mk (pSameRow (z := true) (inn (T2.out.bel ((g19.out.trans b24H.out).trans g25.out)) (by rw [HZ2.out]; decide)) (inn R27.out (by decide)) (by rw [HZ2.out]; decide) (by decide) (by rw [HZ2.out]; decide))
 (with_reducible refine C28.out.mono ?_); rintro e v29 ⟨rfl, b30⟩
 have b30H := Ho.mk b30
 clear C28 b30
 go_wp2
 go_ret
 exact ⟨rfl, (((((((((g1.out.trans b6H.out).trans g7.out).trans b12H.out).trans g13.out).trans b18H.out).trans g19.out).trans b24H.out).trans g25.out).trans b30H.out)⟩
theorem scale15L {A : Option Addr} {c n : Nat} {X : List Nat} {up : Bool} (w : World) (T : Tab w) (hx : In w (.slice A n c) X) (hX : X.length = n) (hl : 64 < n) : Calls Tryz.prog 4 #[.slice A n c, .bool up] w (fun e w' => e = .returned (.bool true) ∧ Bel w w') := by
 have TT := Ho.mk T
 have hl2 : (64 : Int) < (n : Int) := by omega
 clear T hx hX
 go_enter Tryz.func4, Tryz.ntmps4
 go_wp2_with fail
 have C1 := Ho.mk (head15 w (TT.out.bel (Bel.refl _)))
 (with_reducible refine C1.out.mono ?_); rintro e v2 ⟨rfl, b3⟩
 have b3H := Ho.mk b3
 clear C1 b3
 go_wp2
 go_ret
 exact ⟨rfl, b3H.out⟩
theorem scale15S {A : Option Addr} {c n : Nat} {X : List Nat} {up : Bool} (w : World) (T : Tab w) (hx : In w (.slice A n c) X) (hX : X.length = n) (hl : n ≤ 64) : Calls Tryz.prog 4 #[.slice A n c, .bool up] w (fun e w' => e = .returned (.bool true) ∧ Bel w w') := by
 have TT := Ho.mk T
 have HX := Ho.mk hx
 have HXL := Ho.mk hX
 obtain ⟨q, hq⟩ : ∃ q, q = wW up := ⟨_, rfl⟩
 have hqU : up = true → q = 4791830003522207744 := fun e => by rw [hq, e]; rfl
 have hqD : up = false → q = 13681935667951566848 := fun e => by rw [hq, e]; rfl
 have HQ := Ho.mk (wW_ok up)
 rw [← hq] at HQ
 obtain ⟨F, hF⟩ : ∃ F, F = facW up := ⟨_, rfl⟩
 rw [← hF] at HQ
 have hl2 : ¬ (64 : Int) < (n : Int) := by omega
 obtain ⟨S1, hS1⟩ : ∃ Z, Z = scl F X := ⟨_, rfl⟩
 have LS1 := Ho.mk (show S1.length ≤ 64 by rw [hS1, scl_len]; omega)
 have ES := Ho.mk (show S1 = scl (cn q) X by rw [HQ.out.2]; exact hS1)
 obtain ⟨Z0, hZ0⟩ : ∃ Z, Z = irR X := ⟨_, rfl⟩
 obtain ⟨z0, hz0⟩ : ∃ z, z = errF X := ⟨_, rfl⟩
 obtain ⟨W0, hW0⟩ : ∃ Z, Z = scl F Z0 := ⟨_, rfl⟩
 have LZ0 := Ho.mk (show Z0.length ≤ 64 by rw [hZ0]; exact Nat.le_trans (irR_le X) (by omega))
 have LW0 := Ho.mk (show W0.length ≤ 64 by rw [hW0, scl_len]; exact LZ0.out)
 have E0 := Ho.mk (And.intro hZ0 hz0)
 have EW0 := Ho.mk (show W0 = scl (cn q) Z0 by rw [HQ.out.2]; exact hW0)
 have RS0 := Ho.mk (show (∀ x ∈ X, Tm x) → W0 = irR S1 ∧ z0 = errF S1 from fun h => by
  have l := irR_scl (up := up) (X := X) (by omega) h
  rw [hS1, hF, l.1, l.2, hW0, hF, hZ0, hz0]; exact ⟨rfl, rfl⟩)
 clear T hx hX hF hS1 hq hZ0 hz0 hW0
 go_enter Tryz.func4, Tryz.ntmps4
 go_wp2_with fail
 have C1 := Ho.mk (head15 w (TT.out.bel (Bel.refl _)))
 (with_reducible refine C1.out.mono ?_); rintro e v2 ⟨rfl, b3⟩
 have b3H := Ho.mk b3
 clear C1 b3
 go_wp2_with fail
 have C4 := Ho.mk (pTame (HX.out.bel b3H.out) (by have := HXL.out; omega))
 (with_reducible refine C4.out.mono ?_); rintro e v5 ⟨z, rfl, b6, hz⟩
 have b6H := Ho.mk b6
 clear C4 b6
 have ZH := Ho.mk hz
 clear hz
 cases z with
 | false =>
  go_wp2
  go_ret
  exact ⟨rfl, (b3H.out.trans b6H.out)⟩
 | true =>
  replace RS0 := Ho.mk (RS0.out (ZH.out rfl))
  clear ZH
  cases up with
  | false =>
   have hqq := hqD rfl
   subst hqq
   clear hqU hqD
   go_wp2_with fail
   have C7 := Ho.mk (pIrfft (TT.out.bel (b3H.out.trans b6H.out)) (HX.out.bel (b3H.out.trans b6H.out)) (by have := HXL.out; omega) E0.out.1 E0.out.2)
   (with_reducible refine C7.out.mono ?_); rintro e v8 ⟨Aa, ca, rfl, ta, b9⟩
   have b9H := Ho.mk b9
   have TA := Ho.mk ta
   clear C7 b9 ta
   go_wp2_with fail
   have C10 := Ho.mk (pScaled (HX.out.bel ((b3H.out.trans b6H.out).trans b9H.out)) (by have := HXL.out; omega) HQ.out.1 ES.out)
   (with_reducible refine C10.out.mono ?_); rintro e v11 ⟨ASm, cSm, rfl, tSm, b12⟩
   have b12H := Ho.mk b12
   have TSM := Ho.mk tSm
   clear C10 b12 tSm
   go_wp2_with fail
   have C13 := Ho.mk (pIrfft (TT.out.bel (((b3H.out.trans b6H.out).trans b9H.out).trans b12H.out)) (inn TSM.out (by have := LS1.out; omega)) (by have := LS1.out; omega) RS0.out.1 RS0.out.2)
   (with_reducible refine C13.out.mono ?_); rintro e v14 ⟨Ab, cb, rfl, tb, b15⟩
   have b15H := Ho.mk b15
   have TB := Ho.mk tb
   clear C13 b15 tb
   go_wp2_with fail
   have C16 := Ho.mk (pScaled (inn (TA.out.bel (b12H.out.trans b15H.out)) (by have := LZ0.out; omega)) (by have := LZ0.out; omega) HQ.out.1 EW0.out)
   (with_reducible refine C16.out.mono ?_); rintro e v17 ⟨Ay, cy, rfl, ty, b18⟩
   have b18H := Ho.mk b18
   have TY := Ho.mk ty
   clear C16 b18 ty
   go_wp2_with fail
   have C19 := Ho.mk (pSameRow (z := true) (inn TY.out (by have := LW0.out; omega)) (inn (TB.out.bel b18H.out) (by have := LW0.out; omega)) (by have := LW0.out; omega) (by have := LW0.out; omega) (by simp))
   (with_reducible refine C19.out.mono ?_); rintro e v20 ⟨rfl, b21⟩
   have b21H := Ho.mk b21
   clear C19 b21
   go_wp2
   go_ret
   exact ⟨rfl, ((((((b3H.out.trans b6H.out).trans b9H.out).trans b12H.out).trans b15H.out).trans b18H.out).trans b21H.out)⟩
  | true =>
   have hqq := hqU rfl
   subst hqq
   clear hqU hqD
   go_wp2_with fail
   have C7 := Ho.mk (pIrfft (TT.out.bel (b3H.out.trans b6H.out)) (HX.out.bel (b3H.out.trans b6H.out)) (by have := HXL.out; omega) E0.out.1 E0.out.2)
   (with_reducible refine C7.out.mono ?_); rintro e v8 ⟨Aa, ca, rfl, ta, b9⟩
   have b9H := Ho.mk b9
   have TA := Ho.mk ta
   clear C7 b9 ta
   go_wp2_with fail
   have C10 := Ho.mk (pScaled (HX.out.bel ((b3H.out.trans b6H.out).trans b9H.out)) (by have := HXL.out; omega) HQ.out.1 ES.out)
   (with_reducible refine C10.out.mono ?_); rintro e v11 ⟨ASm, cSm, rfl, tSm, b12⟩
   have b12H := Ho.mk b12
   have TSM := Ho.mk tSm
   clear C10 b12 tSm
   go_wp2_with fail
   have C13 := Ho.mk (pIrfft (TT.out.bel (((b3H.out.trans b6H.out).trans b9H.out).trans b12H.out)) (inn TSM.out (by have := LS1.out; omega)) (by have := LS1.out; omega) RS0.out.1 RS0.out.2)
   (with_reducible refine C13.out.mono ?_); rintro e v14 ⟨Ab, cb, rfl, tb, b15⟩
   have b15H := Ho.mk b15
   have TB := Ho.mk tb
   clear C13 b15 tb
   go_wp2_with fail
   have C16 := Ho.mk (pScaled (inn (TA.out.bel (b12H.out.trans b15H.out)) (by have := LZ0.out; omega)) (by have := LZ0.out; omega) HQ.out.1 EW0.out)
   (with_reducible refine C16.out.mono ?_); rintro e v17 ⟨Ay, cy, rfl, ty, b18⟩
   have b18H := Ho.mk b18
   have TY := Ho.mk ty
   clear C16 b18 ty
   go_wp2_with fail
   have C19 := Ho.mk (pSameRow (z := true) (inn TY.out (by have := LW0.out; omega)) (inn (TB.out.bel b18H.out) (by have := LW0.out; omega)) (by have := LW0.out; omega) (by have := LW0.out; omega) (by simp))
   (with_reducible refine C19.out.mono ?_); rintro e v20 ⟨rfl, b21⟩
   have b21H := Ho.mk b21
   clear C19 b21
   go_wp2
   go_ret
   exact ⟨rfl, ((((((b3H.out.trans b6H.out).trans b9H.out).trans b12H.out).trans b15H.out).trans b18H.out).trans b21H.out)⟩
theorem scale15_door (A : Option Addr) (c : Nat) (X : List Nat) (up : Bool) (w : World) (T : Tab w) (hx : In w (.slice A X.length c) X) :
  Calls Tryz.prog 4 #[.slice A X.length c, .bool up] w (fun e w' => e = .returned (.bool true) ∧ Bel w w') := by
 by_cases hl : X.length ≤ 64
 ·exact scale15S w T hx rfl hl
 ·exact scale15L w T hx rfl (by omega)
end Lk
end Go.Proofs.YtalbgklfhabnkaaGreatDoor
