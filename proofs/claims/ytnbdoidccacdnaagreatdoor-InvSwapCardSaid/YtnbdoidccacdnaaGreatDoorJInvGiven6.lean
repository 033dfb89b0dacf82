/-
  Joined, of what this claim leans on: P1, P2, M0, P3, M1, M2, W1, W2, M3, W4, P4, P5, P6, P7, P8, W5, Pa, Pb, Pc, Pe, Pg, Ph, Pi, Pj, Pk, Lv.
-/
import Derived.LaidEql
import Derived.Stop.Asserts
import Derived.Laws.Cover2
import Derived.Deep.AppendLies
import Derived.Test.YtnbdoidccacdnaaGreatDoorJInvGiven5
set_option linter.unusedVariables false
set_option linter.unusedSimpArgs false
namespace Go.Proofs.YtnbdoidccacdnaaGreatDoor.P1
open Ieee Go Go.RowKit Go.Proofs Go.Proofs.YtnbdoidccacdnaaGreatDoor Ow Pl Gp F1 I0 W0 S3 S4 P0
attribute [local go_sem ↓] Go.wp_at_zero Go.wp_at_succ
theorem resPP {fn : Func} {p q : Tmp} {tmps : Array Value} {w : World} {b b' : Nat} {v0 v1 u0 u1 : Value} (hf : fn.results = #[.cell p 141, .cell q 141]) (hp : tmps.getD p undef = .pointer (some ⟨b, 0, none⟩)) (hq : tmps.getD q undef = .pointer (some ⟨b', 0, none⟩)) (h : Blk w b 141 [v0, v1]) (h' : Blk w b' 141 [u0, u1]) :
    (results fn tmps).run Tryz.prog w = .ok (.tuple #[.agg #[v0, v1], .agg #[u0, u1]]) w := by
  have y0 := h.cell (i := 0) rfl
  have y1 := h.cell (i := 1) rfl
  have x0 := h'.cell (i := 0) rfl
  have x1 := h'.cell (i := 1) rfl
  have hp2 := hp
  have hq2 := hq
  rw [Array.getD_eq_getD_getElem?] at hp2 hq2
  simp [results, hf, hp2, hq2, go_sem, y0, y1, x0, x1]
def TellsBy (W0 : World) (a b c d : Nat) (e : Ending) (w' : World) : Prop :=
  ∃ r s t u, e = .returned (.tuple #[.agg #[.float .f64 r, .float .f64 s], .agg #[.float .f64 t, .float .f64 u]]) ∧ ((r < 2 * sgnW ∧ s < 2 * sgnW) ∧ (t < 2 * sgnW ∧ u < 2 * sgnW)) ∧ ((cn r = fmul a c ∧ cn s = fmul a d) ∧ (cn t = fmul b d ∧ cn u = fmul b c)) ∧ Bel W0 w'
set_option maxRecDepth 100000 in
set_option maxHeartbeats 8000000 in
theorem dBy {a b c d : Nat} (w : World) (ha : a < 2 * sgnW) (hb : b < 2 * sgnW) (hc : c < 2 * sgnW) (hd : d < 2 * sgnW) :
    Calls Tryz.prog 160 #[.agg #[.float .f64 a, .float .f64 b], .agg #[.float .f64 c, .float .f64 d]] w (TellsBy w (cn a) (cn b) (cn c) (cn d)) := by
  have F1 := Ho.mk (fun w => dOMul w ha hc)
  have F2 := Ho.mk (fun w => dOMul w ha hd)
  have F3 := Ho.mk (fun w => dOMul w hb hd)
  have F4 := Ho.mk (fun w => dOMul w hb hc)
  clear ha hb hc hd
  go_enter Tryz.func160, Tryz.ntmps160
  go_wp2_with fail
  have KP := Ho.mk ((((Blk.new w [.float .f64 a, .float .f64 b] 141).old (.cells #[.float .f64 c, .float .f64 d] 141)).old (.cells #[.float .f64 0, .float .f64 0] 141)).old (.cells #[.float .f64 0, .float .f64 0] 141))
  have KQ := Ho.mk (((Blk.new (w.alloc (.cells #[.float .f64 a, .float .f64 b] 141)) [.float .f64 c, .float .f64 d] 141).old (.cells #[.float .f64 0, .float .f64 0] 141)).old (.cells #[.float .f64 0, .float .f64 0] 141))
  rw [World.size_alloc] at KQ
  have KR := Ho.mk ((Blk.new ((w.alloc (.cells #[.float .f64 a, .float .f64 b] 141)).alloc (.cells #[.float .f64 c, .float .f64 d] 141)) [.float .f64 0, .float .f64 0] 141).old (.cells #[.float .f64 0, .float .f64 0] 141))
  rw [World.size_alloc, World.size_alloc] at KR
  have KS := Ho.mk (Blk.new (((w.alloc (.cells #[.float .f64 a, .float .f64 b] 141)).alloc (.cells #[.float .f64 c, .float .f64 d] 141)).alloc (.cells #[.float .f64 0, .float .f64 0] 141)) [.float .f64 0, .float .f64 0] 141)
  rw [World.size_alloc, World.size_alloc, World.size_alloc] at KS
  have g0 := Ho.mk (((((Bel.refl w).alloc (.cells #[.float .f64 a, .float .f64 b] 141)).alloc (.cells #[.float .f64 c, .float .f64 d] 141)).alloc (.cells #[.float .f64 0, .float .f64 0] 141)).alloc (.cells #[.float .f64 0, .float .f64 0] 141))
  have hS : ((((w.alloc (.cells #[.float .f64 a, .float .f64 b] 141)).alloc (.cells #[.float .f64 c, .float .f64 d] 141)).alloc (.cells #[.float .f64 0, .float .f64 0] 141)).alloc (.cells #[.float .f64 0, .float .f64 0] 141)).heap.size = w.heap.size + 1 + 1 + 1 + 1 := by simp only [World.size_alloc]
  generalize ((((w.alloc (.cells #[.float .f64 a, .float .f64 b] 141)).alloc (.cells #[.float .f64 c, .float .f64 d] 141)).alloc (.cells #[.float .f64 0, .float .f64 0] 141)).alloc (.cells #[.float .f64 0, .float .f64 0] 141)) = W at *
  refine wp_region_held_drew (S := fun w' => Blk w' (w.heap.size) 141 [.float .f64 a, .float .f64 b] ∧ Blk w' (w.heap.size + 1) 141 [.float .f64 c, .float .f64 d]) (by kernel_rfl) ⟨KP.out.bel (Bel.refl _).drew, KQ.out.bel (Bel.refl _).drew⟩ (fun hHeld => ?_)
  (try dsimp only at hHeld)
  refine rt (i := 0) hHeld ?_
  refine rl (i := 1) (v := ?_) hHeld (fun w hSw => ?_) ?_
  rotate_left
  · (have z := hSw.1.cell (i := 0) rfl; go_simp; try (with_reducible rfl))
  refine rt (i := 2) hHeld ?_
  refine rl (i := 3) (v := ?_) hHeld (fun w hSw => ?_) ?_
  rotate_left
  · (have z := hSw.2.cell (i := 0) rfl; go_simp; try (with_reducible rfl))
  refine rt (i := 5) hHeld ?_
  refine rl (i := 6) (v := ?_) hHeld (fun w hSw => ?_) ?_
  rotate_left
  · (have z := hSw.1.cell (i := 0) rfl; go_simp; try (with_reducible rfl))
  refine rt (i := 7) hHeld ?_
  refine rl (i := 8) (v := ?_) hHeld (fun w hSw => ?_) ?_
  rotate_left
  · (have z := hSw.2.cell (i := 1) rfl; go_simp; try (with_reducible rfl))
  refine rt (i := 11) hHeld ?_
  refine rl (i := 12) (v := ?_) hHeld (fun w hSw => ?_) ?_
  rotate_left
  · (have z := hSw.1.cell (i := 1) rfl; go_simp; try (with_reducible rfl))
  refine rt (i := 13) hHeld ?_
  refine rl (i := 14) (v := ?_) hHeld (fun w hSw => ?_) ?_
  rotate_left
  · (have z := hSw.2.cell (i := 1) rfl; go_simp; try (with_reducible rfl))
  refine rt (i := 16) hHeld ?_
  refine rl (i := 17) (v := ?_) hHeld (fun w hSw => ?_) ?_
  rotate_left
  · (have z := hSw.1.cell (i := 1) rfl; go_simp; try (with_reducible rfl))
  refine rt (i := 18) hHeld ?_
  refine rl (i := 19) (v := ?_) hHeld (fun w hSw => ?_) ?_
  rotate_left
  · (have z := hSw.2.cell (i := 0) rfl; go_simp; try (with_reducible rfl))
  try simp only [Act.put, List.setIfInBounds_toArray, List.set_cons_zero, List.set_cons_succ]
  refine rc (i := 4) (fun K hK => ?_)
  go_simp
  go_at_call 108
  (with_reducible refine (F1.out _).mono ?_); rintro e w1 ⟨r1, rfl, l1, c1, b1⟩
  try go_wp2_with fail
  refine hK.out _ _ ⟨hHeld.1.bel b1, hHeld.2.bel b1⟩ (fun hHeld => ?_)
  clear hK K
  try simp only [Act.put, List.setIfInBounds_toArray, List.set_cons_zero, List.set_cons_succ]
  refine rc (i := 9) (fun K hK => ?_)
  go_simp
  go_at_call 108
  (with_reducible refine (F2.out _).mono ?_); rintro e w2 ⟨r2, rfl, l2, c2, b2⟩
  try go_wp2_with fail
  refine hK.out _ _ ⟨hHeld.1.bel b2, hHeld.2.bel b2⟩ (fun hHeld => ?_)
  clear hK K
  refine rt (i := 10) hHeld ?_
  try simp only [Act.put, List.setIfInBounds_toArray, List.set_cons_zero, List.set_cons_succ]
  refine rc (i := 15) (fun K hK => ?_)
  go_simp
  go_at_call 108
  (with_reducible refine (F3.out _).mono ?_); rintro e w3 ⟨r3, rfl, l3, c3, b3⟩
  try go_wp2_with fail
  refine hK.out _ _ ⟨hHeld.1.bel b3, hHeld.2.bel b3⟩ (fun hHeld => ?_)
  clear hK K
  try simp only [Act.put, List.setIfInBounds_toArray, List.set_cons_zero, List.set_cons_succ]
  refine rc (i := 20) (fun K hK => ?_)
  go_simp
  go_at_call 108
  (with_reducible refine (F4.out _).mono ?_); rintro e w4 ⟨r4, rfl, l4, c4, b4⟩
  try go_wp2_with fail
  refine hK.out _ _ ⟨hHeld.1.bel b4, hHeld.2.bel b4⟩ (fun hHeld => ?_)
  clear hK K
  refine rt (i := 21) hHeld ?_
  have bb := Ho.mk ((((((Bel.refl W).drew).trans b1).trans b2).trans b3).trans b4)
  have KR := Ho.mk (KR.out.bel bb.out)
  have KS := Ho.mk (KS.out.bel bb.out)
  have g2 := Ho.mk (g0.out.trans bb.out)
  clear bb
  have y0 := KR.out.cell (i := 0) rfl
  have y1 := KR.out.cell (i := 1) rfl
  have z0 := KR.out.free 0
  have z1 := KR.out.free 1
  have x0 := KS.out.cell (i := 0) rfl
  have x1 := KS.out.cell (i := 1) rfl
  have v0 := KS.out.free 0
  have v1 := KS.out.free 1
  try simp only [Act.put, List.setIfInBounds_toArray, List.set_cons_zero, List.set_cons_succ]
  refine rc (i := 22) (fun K hK => ?_)
  go_simp
  refine hK.out _ _ ⟨((hHeld.1.far (p := ⟨w.heap.size + 1 + 1, 0, none⟩) (by dsimp only; omega) (.float .f64 r1)).far (p := ⟨w.heap.size + 1 + 1, 1, none⟩) (by dsimp only; omega) (.float .f64 r2)), ((hHeld.2.far (p := ⟨w.heap.size + 1 + 1, 0, none⟩) (by dsimp only; omega) (.float .f64 r1)).far (p := ⟨w.heap.size + 1 + 1, 1, none⟩) (by dsimp only; omega) (.float .f64 r2))⟩ (fun hHeld => ?_)
  clear hK K
  have KS := Ho.mk ((KS.out.far (p := ⟨w.heap.size + 1 + 1, 0, none⟩) (by dsimp only; omega) (.float .f64 r1)).far (p := ⟨w.heap.size + 1 + 1, 1, none⟩) (by dsimp only; omega) (.float .f64 r2))
  have KR := Ho.mk ((KR.out.set 0 (.float .f64 r1)).set 1 (.float .f64 r2))
  have g3 := Ho.mk ((g2.out.out.setCell (p := ⟨w.heap.size + 1 + 1, 0, none⟩) (by dsimp only; omega) (.float .f64 r1)).setCell (p := ⟨w.heap.size + 1 + 1, 1, none⟩) (by dsimp only; omega) (.float .f64 r2))
  simp only [List.set_cons_zero, List.set_cons_succ] at KR
  clear x0 x1 y0 y1 z0 z1 v0 v1
  generalize (w4.setCell ⟨w.heap.size + 1 + 1, 0, none⟩ (.float .f64 r1)).setCell ⟨w.heap.size + 1 + 1, 1, none⟩ (.float .f64 r2) = W9 at *
  have x0 := KS.out.cell (i := 0) rfl
  have x1 := KS.out.cell (i := 1) rfl
  have v0 := KS.out.free 0
  have v1 := KS.out.free 1
  try simp only [Act.put, List.setIfInBounds_toArray, List.set_cons_zero, List.set_cons_succ]
  refine rc (i := 23) (fun K hK => ?_)
  go_simp
  refine hK.out _ _ ⟨((hHeld.1.far (p := ⟨w.heap.size + 1 + 1 + 1, 0, none⟩) (by dsimp only; omega) (.float .f64 r3)).far (p := ⟨w.heap.size + 1 + 1 + 1, 1, none⟩) (by dsimp only; omega) (.float .f64 r4)), ((hHeld.2.far (p := ⟨w.heap.size + 1 + 1 + 1, 0, none⟩) (by dsimp only; omega) (.float .f64 r3)).far (p := ⟨w.heap.size + 1 + 1 + 1, 1, none⟩) (by dsimp only; omega) (.float .f64 r4))⟩ (fun hHeld => ?_)
  clear hK K
  try simp only [Act.put, List.setIfInBounds_toArray, List.set_cons_zero, List.set_cons_succ]
  refine wpAnyH_done (by kernel_rfl) ?_ _
  go_wp2
  exact bodyPost_ret (resPP (fn := Tryz.f160) rfl rfl rfl ((KR.out.far (p := ⟨w.heap.size + 1 + 1 + 1, 0, none⟩) (by dsimp only; omega) (.float .f64 r3)).far (p := ⟨w.heap.size + 1 + 1 + 1, 1, none⟩) (by dsimp only; omega) (.float .f64 r4)) ((KS.out.set 0 (.float .f64 r3)).set 1 (.float .f64 r4))) rfl ⟨r1, r2, r3, r4, rfl, ⟨⟨l1, l2⟩, ⟨l3, l4⟩⟩, ⟨⟨c1, c2⟩, ⟨c3, c4⟩⟩, ⟨((g3.out.setCell (p := ⟨w.heap.size + 1 + 1 + 1, 0, none⟩) (by dsimp only; omega) (.float .f64 r3)).setCell (p := ⟨w.heap.size + 1 + 1 + 1, 1, none⟩) (by dsimp only; omega) (.float .f64 r4))⟩⟩
set_option maxRecDepth 100000 in
set_option maxHeartbeats 8000000 in
theorem dTurnP {a b c d : Nat} (w : World) (ha : a < 2 * sgnW) (hb : b < 2 * sgnW) (hc : c < 2 * sgnW) (hd : d < 2 * sgnW) :
    Calls Tryz.prog 133 #[.agg #[.float .f64 a, .float .f64 b], .agg #[.float .f64 c, .float .f64 d]] w (TellsP w (fadd (fmul (cn a) (cn c)) (fmul (cn b) (cn d)), fsub (fmul (cn b) (cn c)) (fmul (cn a) (cn d)))) := by
  have BY := Ho.mk (fun w => dBy w ha hb hc hd)
  clear ha hb hc hd
  go_enter Tryz.func133, Tryz.ntmps133
  have KP := Ho.mk (((Blk.new w [.float .f64 a, .float .f64 b] 141).old (.cells #[.float .f64 c, .float .f64 d] 141)).old (.cells #[.float .f64 0, .float .f64 0] 141))
  have KQ := Ho.mk ((Blk.new (w.alloc (.cells #[.float .f64 a, .float .f64 b] 141)) [.float .f64 c, .float .f64 d] 141).old (.cells #[.float .f64 0, .float .f64 0] 141))
  rw [World.size_alloc] at KQ
  have KR := Ho.mk (Blk.new ((w.alloc (.cells #[.float .f64 a, .float .f64 b] 141)).alloc (.cells #[.float .f64 c, .float .f64 d] 141)) [.float .f64 0, .float .f64 0] 141)
  rw [World.size_alloc, World.size_alloc] at KR
  have g0 := Ho.mk ((((Bel.refl w).alloc (.cells #[.float .f64 a, .float .f64 b] 141)).alloc (.cells #[.float .f64 c, .float .f64 d] 141)).alloc (.cells #[.float .f64 0, .float .f64 0] 141))
  have hS : (((w.alloc (.cells #[.float .f64 a, .float .f64 b] 141)).alloc (.cells #[.float .f64 c, .float .f64 d] 141)).alloc (.cells #[.float .f64 0, .float .f64 0] 141)).heap.size = w.heap.size + 1 + 1 + 1 := by simp only [World.size_alloc]
  go_upto_region 1 with fail
  generalize (((w.alloc (.cells #[.float .f64 a, .float .f64 b] 141)).alloc (.cells #[.float .f64 c, .float .f64 d] 141)).alloc (.cells #[.float .f64 0, .float .f64 0] 141)) = W at *
  have x0 := KP.out.cell (i := 0) rfl
  have x1 := KP.out.cell (i := 1) rfl
  have y0 := KQ.out.cell (i := 0) rfl
  have y1 := KQ.out.cell (i := 1) rfl
  go_wp2_with fail
  (with_reducible refine (BY.out _).mono ?_); rintro e w5 ⟨r, s, t, u, rfl, l5, c5, b5⟩
  have KR := Ho.mk (KR.out.bel b5)
  have g2 := Ho.mk (g0.out.trans b5)
  clear x0 x1 y0 y1 b5 KP KQ
  go_upto_region 2 with fail
  have KX := Ho.mk ((Blk.new w5 [.float .f64 r, .float .f64 s] 141).old (.cells #[.float .f64 t, .float .f64 u] 141))
  have KY := Ho.mk (Blk.new (w5.alloc (.cells #[.float .f64 r, .float .f64 s] 141)) [.float .f64 t, .float .f64 u] 141)
  rw [World.size_alloc] at KY
  have KR := Ho.mk ((KR.out.old (.cells #[.float .f64 r, .float .f64 s] 141)).old (.cells #[.float .f64 t, .float .f64 u] 141))
  have g3 := Ho.mk ((g2.out.alloc (.cells #[.float .f64 r, .float .f64 s] 141)).alloc (.cells #[.float .f64 t, .float .f64 u] 141))
  have A1 := Ho.mk (fun w => dOAdd w l5.1.1 l5.2.1)
  have A2 := Ho.mk (fun w => dOSub w l5.2.2 l5.1.2)
  have C5 := Ho.mk c5
  clear l5 c5 g2
  generalize (w5.alloc (.cells #[.float .f64 r, .float .f64 s] 141)).alloc (.cells #[.float .f64 t, .float .f64 u] 141) = W3 at *
  have x0 := KX.out.cell (i := 0) rfl
  have x1 := KX.out.cell (i := 1) rfl
  have y0 := KY.out.cell (i := 0) rfl
  have y1 := KY.out.cell (i := 1) rfl
  refine I7.wp_region_late 11 (S := fun w' => Bel W3 w') (by kernel_rfl) (Bel.refl _).drew (fun hHeld => ?_)
  (try dsimp only at hHeld)
  refine I7.kt (i := 0) hHeld ?_
  refine I7.kl (i := 1) (v := ?_) hHeld (fun w hSw => ?_) ?_
  rotate_left
  · (have z0 := hSw.cell x0; go_simp; try (with_reducible rfl))
  refine I7.kt (i := 2) hHeld ?_
  refine I7.kl (i := 3) (v := ?_) hHeld (fun w hSw => ?_) ?_
  rotate_left
  · (have z0 := hSw.cell y0; go_simp; try (with_reducible rfl))
  refine I7.kt (i := 5) hHeld ?_
  refine I7.kl (i := 6) (v := ?_) hHeld (fun w hSw => ?_) ?_
  rotate_left
  · (have z0 := hSw.cell y1; go_simp; try (with_reducible rfl))
  refine I7.kt (i := 7) hHeld ?_
  refine I7.kl (i := 8) (v := ?_) hHeld (fun w hSw => ?_) ?_
  rotate_left
  · (have z0 := hSw.cell x1; go_simp; try (with_reducible rfl))
  try simp only [Act.put, List.setIfInBounds_toArray, List.set_cons_zero, List.set_cons_succ]
  refine I7.kc (i := 4) (fun K hK => ?_)
  go_simp
  go_at_call 154
  (with_reducible refine (A1.out _).mono ?_); rintro e w6 ⟨r6, rfl, l6, c6, b6⟩
  try go_wp2_with fail
  refine hK.out _ _ (Bel.trans hHeld b6) (fun hHeld => ?_)
  clear hK K
  try simp only [Act.put, List.setIfInBounds_toArray, List.set_cons_zero, List.set_cons_succ]
  refine I7.kc (i := 9) (fun K hK => ?_)
  go_simp
  go_at_call 155
  (with_reducible refine (A2.out _).mono ?_); rintro e w7 ⟨r7, rfl, l7, c7, b7⟩
  try go_wp2_with fail
  refine hK.out _ _ (Bel.trans hHeld b7) (fun hHeld => ?_)
  clear hK K
  refine I7.kt (i := 10) hHeld ?_
  have KR := Ho.mk (KR.out.bel hHeld)
  have g4 := Ho.mk (g3.out.trans hHeld)
  clear x0 x1 y0 y1 hHeld
  have y0 := KR.out.cell (i := 0) rfl
  have y1 := KR.out.cell (i := 1) rfl
  have z0 := KR.out.free 0
  have z1 := KR.out.free 1
  try simp only [Act.put, List.setIfInBounds_toArray, List.set_cons_zero, List.set_cons_succ]
  refine I7.ke (i := 11) (fun K hK => ?_)
  go_simp
  refine hK.out _ _ ?_
  clear hK K
  try simp only [Act.put, List.setIfInBounds_toArray, List.set_cons_zero, List.set_cons_succ]
  refine wpAny_done (by kernel_rfl) ?_ _
  go_wp2
  exact bodyPost_ret (resP (fn := Tryz.f133) rfl rfl ((KR.out.set 0 (.float .f64 r6)).set 1 (.float .f64 r7))) rfl ⟨r6, r7, rfl, ⟨l6, l7⟩, ⟨by rw [c6, C5.out.1.1, C5.out.2.1], by rw [c7, C5.out.2.2, C5.out.1.2]⟩, ⟨((g4.out.out.setCell (p := ⟨w.heap.size + 1 + 1, 0, none⟩) (by dsimp only; omega) (.float .f64 r6)).setCell (p := ⟨w.heap.size + 1 + 1, 1, none⟩) (by dsimp only; omega) (.float .f64 r7))⟩⟩
set_option maxRecDepth 100000 in
set_option maxHeartbeats 8000000 in
theorem dTold {a b c d fn : Nat} {p : Nat × Nat} (w : World) (hfn : fn = 124 ∨ fn = 125 ∨ fn = 133)
    (BY : ∀ w, Calls Tryz.prog fn #[.agg #[.float .f64 a, .float .f64 b], .agg #[.float .f64 c, .float .f64 d]] w (TellsP w p)) :
    Calls Tryz.prog 123 #[.func (.func fn) #[] #[], .float .f64 a, .float .f64 b, .float .f64 c, .float .f64 d] w (Tells2 w p) := by
  have BB := Ho.mk BY
  clear BY
  rcases hfn with rfl | rfl | rfl
  all_goals
    go_enter Tryz.func123, Tryz.ntmps123
    go_wp2_with fail
    (with_reducible refine (BB.out _).mono ?_); rintro e w5 ⟨r, s, rfl, l5, c5, b5⟩
    have KX := Ho.mk (Blk.new w5 [.float .f64 r, .float .f64 s] 141)
    have g2 := Ho.mk (b5.alloc (.cells #[.float .f64 r, .float .f64 s] 141))
    have HH := Ho.mk (And.intro l5 c5)
    clear l5 c5 b5
    have y0 := KX.out.cell (i := 0) rfl
    have y1 := KX.out.cell (i := 1) rfl
    go_upto_region 2 with fail
    generalize w5.alloc (.cells #[.float .f64 r, .float .f64 s] 141) = W3 at *
    go_region
    go_wp2
    go_ret2
    exact ⟨r, s, rfl, HH.out.1, HH.out.2, g2.out.drew⟩
end Go.Proofs.YtnbdoidccacdnaaGreatDoor.P1
namespace Go.Proofs.YtnbdoidccacdnaaGreatDoor.P2
open Ieee Go Go.RowKit Go.Proofs Go.Proofs.YtnbdoidccacdnaaGreatDoor Ow Pl Gp F1 I0 W0 S3 S4 P0 P1
attribute [local go_sem ↓] Go.wp_at_zero Go.wp_at_succ
set_option maxRecDepth 100000 in
set_option maxHeartbeats 8000000 in
theorem dCAdd {a b c d : Nat} (w : World) (ha : a < 2 * sgnW) (hb : b < 2 * sgnW) (hc : c < 2 * sgnW) (hd : d < 2 * sgnW) :
    Calls Tryz.prog 81 #[.float .f64 a, .float .f64 b, .float .f64 c, .float .f64 d] w (Tells2 w (fadd (cn a) (cn c), fadd (cn b) (cn d))) := by
  have TD := Ho.mk (fun w => dTold w (.inl rfl) (fun w => dPAdd w ha hb hc hd))
  clear ha hb hc hd
  go_enter Tryz.func81, Tryz.ntmps81
  go_wp2_with fail
  (with_reducible refine (TD.out _).mono ?_); rintro e w5 ⟨r, s, rfl, l5, c5, b5⟩
  go_wp2
  go_ret2
  exact ⟨r, s, rfl, l5, c5, b5⟩
set_option maxRecDepth 100000 in
set_option maxHeartbeats 8000000 in
theorem dCSub {a b c d : Nat} (w : World) (ha : a < 2 * sgnW) (hb : b < 2 * sgnW) (hc : c < 2 * sgnW) (hd : d < 2 * sgnW) :
    Calls Tryz.prog 82 #[.float .f64 a, .float .f64 b, .float .f64 c, .float .f64 d] w (Tells2 w (fsub (cn a) (cn c), fsub (cn b) (cn d))) := by
  have TD := Ho.mk (fun w => dTold w (.inr (.inl rfl)) (fun w => dPSub w ha hb hc hd))
  clear ha hb hc hd
  go_enter Tryz.func82, Tryz.ntmps82
  go_wp2_with fail
  (with_reducible refine (TD.out _).mono ?_); rintro e w5 ⟨r, s, rfl, l5, c5, b5⟩
  go_wp2
  go_ret2
  exact ⟨r, s, rfl, l5, c5, b5⟩
set_option maxRecDepth 100000 in
set_option maxHeartbeats 8000000 in
theorem dCTurn {a b c d : Nat} (w : World) (ha : a < 2 * sgnW) (hb : b < 2 * sgnW) (hc : c < 2 * sgnW) (hd : d < 2 * sgnW) :
    Calls Tryz.prog 86 #[.float .f64 a, .float .f64 b, .float .f64 c, .float .f64 d] w (Tells2 w (fadd (fmul (cn a) (cn c)) (fmul (cn b) (cn d)), fsub (fmul (cn b) (cn c)) (fmul (cn a) (cn d)))) := by
  have TD := Ho.mk (fun w => dTold w (.inr (.inr rfl)) (fun w => dTurnP w ha hb hc hd))
  clear ha hb hc hd
  go_enter Tryz.func86, Tryz.ntmps86
  go_wp2_with fail
  (with_reducible refine (TD.out _).mono ?_); rintro e w5 ⟨r, s, rfl, l5, c5, b5⟩
  go_wp2
  go_ret2
  exact ⟨r, s, rfl, l5, c5, b5⟩
end Go.Proofs.YtnbdoidccacdnaaGreatDoor.P2
namespace Go.Proofs.YtnbdoidccacdnaaGreatDoor.M0
structure Ops (α : Type) where
  add : α → α → α
  sub : α → α → α
  mul : α → α → α
  neg : α → α
  lit : Nat → α
def loopN {σ : Type} (f : Nat → σ → σ) : Nat → σ → σ
  | 0, s => s
  | k + 1, s => f k (loopN f k s)
section
variable {α : Type} (O : Ops α)
def nthG (l : List α) (i : Nat) : α := l.getD i (O.lit 0)
def cadd (x y a b : α) : α × α := (O.add x a, O.add y b)
def csub (x y a b : α) : α × α := (O.sub x a, O.sub y b)
def cturn (a b c s : α) : α × α := (O.add (O.mul a c) (O.mul b s), O.sub (O.mul b c) (O.mul a s))
def swapAt (l : List α) (k a : Nat) : List α := if k < a then (l.set k (nthG O l a)).set a (nthG O l k) else l
def swapG (order : List Nat) (l : List α) : List α := loopN (fun k l => swapAt O l k (order.getD k 0)) order.length l
def mstep (from_ half : Nat) (tw : Nat → Nat × Nat) (k : Nat) (st : List α × List α) : List α × List α :=
  let a := nthG O st.1 (from_ + half + k)
  let b := nthG O st.2 (from_ + half + k)
  let t := if k = 0 then (a, b) else cturn O a b (O.lit (tw k).1) (O.lit (tw k).2)
  let x := nthG O st.1 (from_ + k)
  let y := nthG O st.2 (from_ + k)
  ((st.1.set (from_ + k) (O.add x t.1)).set (from_ + half + k) (O.sub x t.1), (st.2.set (from_ + k) (O.add y t.2)).set (from_ + half + k) (O.sub y t.2))
def mergeG (from_ half : Nat) (tw : Nat → Nat × Nat) (st : List α × List α) : List α × List α := loopN (mstep O from_ half tw) half st
def stageG (half many : Nat) (tw : Nat → Nat × Nat) (st : List α × List α) : List α × List α := loopN (fun i st => mergeG O (i * (2 * half)) half tw st) many st
def intoG (order : List Nat) (p : Nat) (tab : Nat → Nat × Nat) (st : List α × List α) : List α × List α :=
  loopN (fun q st => stageG O (2 ^ q) (2 ^ (p - (q + 1))) (fun k => tab (k * 2 ^ (p - (q + 1)))) st) p (swapG O order st.1, swapG O order st.2)
end
def bitsStep (p k : Nat) (l : List Nat) : List Nat := if 0 < k then l.set k (l.getD (k / 2) 0 / 2 + k % 2 * 2 ^ (p - 1)) else l
def bitsG (p : Nat) : List Nat := loopN (bitsStep p) (2 ^ p) (List.replicate (2 ^ p) 0)
end Go.Proofs.YtnbdoidccacdnaaGreatDoor.M0
namespace Go.Proofs.YtnbdoidccacdnaaGreatDoor.P3
open Ieee Go Go.RowKit Go.Proofs Go.Proofs.YtnbdoidccacdnaaGreatDoor Ow Pl Gp F1 I0 W0 S4 M0 N2
attribute [local go_sem ↓] Go.wp_at_zero Go.wp_at_succ
def insN (X : List Nat) : List Value := X.map fun (n : Nat) => Value.int .i64 (n : Int)
theorem insN_at {X : List Nat} {j : Nat} (h : j < X.length) : (insN X)[j]? = some (.int .i64 ((X.getD j 0 : Nat) : Int)) := by
  simp [insN, List.getElem?_eq_getElem h]
def bitsOk (p : Nat) : Bool := (fun l : List Nat => (List.range (2 ^ p)).all fun i => i == 0 || decide (bits BinOp.or IntKind.i64 ((l.getD (i / 2) 0 : Nat) / 2 : Int) (wrap64 (bits BinOp.and IntKind.i64 (i : Int) 1 * 2 ^ (p - 1))) = ((l.getD i 0 : Nat) : Int))) (bitsG p)
theorem bits_ok : ∀ p : Fin 8, bitsOk p.val = true ∧ (bitsG p.val).length = 2 ^ p.val ∧ (bitsG p.val).getD 0 0 = 0 := by decide +kernel
theorem bits_map {p : Nat} (hp : p ≤ 7) : bitsG p = (List.range (2 ^ p)).map (fun j => (bitsG p).getD j 0) := by
  have h := (bits_ok ⟨p, by omega⟩).2.1
  dsimp only at h
  refine List.ext_getElem (by simpa using h) fun i h1 h2 => ?_
  simp [List.getElem?_eq_getElem h1]
theorem bits_val {p i : Nat} (hp : p ≤ 7) (hi : i < 2 ^ p) (h0 : 0 < i) : bits BinOp.or IntKind.i64 (((bitsG p).getD (i / 2) 0 : Nat) / 2 : Int) (wrap64 (bits BinOp.and IntKind.i64 (i : Int) 1 * 2 ^ (p - 1))) = (((bitsG p).getD i 0 : Nat) : Int) := by
  have h0' := (bits_ok ⟨p, by omega⟩).1
  unfold bitsOk at h0'
  dsimp only at h0'
  have h := List.all_eq_true.1 h0' i (List.mem_range.2 hi)
  simp only [Bool.or_eq_true, beq_iff_eq, decide_eq_true_eq] at h
  rcases h with h | h
  · omega
  · exact h
theorem insN_set (X : List Nat) (i v : Nat) : (insN X).set i (.int .i64 (v : Int)) = insN (X.set i v) := by
  unfold insN; rw [List.map_set]
theorem upRow_at (f : Nat → Nat) {m i j : Nat} (h : j < m) : (upRow f m i).getD j 0 = if j < i then f j else 0 := by
  simp [upRow, List.getElem?_eq_getElem, h]
set_option maxRecDepth 100000 in
set_option maxHeartbeats 8000000 in
theorem dBits {p : Nat} {pi : Int} (w : World) (hp : pi = (p : Int)) (hp9 : p ≤ 7) :
    Calls Tryz.prog 101 #[.int .i64 pi] w
      fun e w' => ∃ b, e = .returned (.slice (some ⟨b, 0, none⟩) (2 ^ p) (2 ^ p)) ∧ Blk w' b 3 (insN (bitsG p)) ∧ w.heap.size ≤ b ∧ Bel w w' := by
  subst hp
  have h2 : 2 ^ p ≤ 512 := Nat.le_trans (Nat.pow_le_pow_right (by decide) hp9) (by decide)
  go_enter Tryz.func101, Tryz.ntmps101
  have hw : wrap64 ((2 : Int) ^ p) = ((2 ^ p : Nat) : Int) := by
    have : ((2 : Int) ^ p) = ((2 ^ p : Nat) : Int) := by push_cast; rfl
    rw [this]
    generalize 2 ^ p = N at *
    unfold wrap64 at *; omega
  go_upto_region 3 with fail
  go_wp2_with (at_make; refine wpList_mk _ rfl _ _ 38 rfl 3 (.int .i64 0) 8 Tryz.underlying38 info3 rfl (2 ^ p) (congrArg (Value.int .i64) hw) (congrArg (Value.int .i64) hw) (by omega) (by omega) ?_; intro w1 hk1 hl1 hs1)
  have hN : ((2 : Int) ^ p) = ((2 ^ p : Nat) : Int) := by push_cast; rfl
  rw [hN]
  obtain ⟨N, hNe⟩ : ∃ N, N = 2 ^ p := ⟨_, rfl⟩
  rw [← hNe] at hk1 h2 ⊢
  have HNE := Ho.mk hNe
  have hN1 : 0 < N := by rw [hNe]; exact Nat.two_pow_pos p
  clear hN hw hNe
  obtain ⟨bo, hbo⟩ : ∃ bo, bo = w.heap.size := ⟨_, rfl⟩
  rw [← hbo] at hk1 hs1 ⊢
  have HBO := Ho.mk hbo
  have HK1 := Ho.mk hk1
  have HL1 := Ho.mk hl1
  clear hk1 hl1 hs1 hbo
  go_loopw [16] (fun v wr => ∃ (i : Nat), i ≤ N ∧ v = .int .i64 i ∧ Ho (Blk wr bo 3 (insN (upRow (fun j => (bitsG p).getD j 0) N i))) ∧ Ho (Bel w wr)) (fun v _ => N - (intOf v).toNat)
  case atStart => exact ⟨0, Nat.zero_le _, rfl, ⟨by rw [upRow_zero]; simpa [insN] using HK1.out⟩, HL1⟩
  case round =>
    obtain ⟨i, hi, rfl, FK, HW⟩ := hrel
    rcases Nat.lt_or_ge i N with hlt | hge
    · rcases Nat.eq_zero_or_pos i with rfl | hpos
      · go_wp2
        go_roundw
        case rel =>
          have f0 := (bits_ok ⟨p, by omega⟩).2.2
          dsimp only at f0
          have hz := upRow_set (fun j => (bitsG p).getD j 0) N 0 hlt
          simp only [f0, upRow_zero] at hz
          rw [show (List.replicate N 0).set 0 0 = List.replicate N 0 from by
            apply List.ext_getElem (by simp)
            intro i h1 h2
            rw [List.getElem_set]; split <;> simp] at hz
          refine ⟨1, by omega, by simp, ⟨?_⟩, HW⟩
          rw [← hz, ← upRow_zero (fun j => (bitsG p).getD j 0)]; exact FK.out
        case measure => simp [intOf]; omega
      · have hl2 : i / 2 < (upRow (fun j => (bitsG p).getD j 0) N i).length := by rw [upRow_len]; omega
        have hl3 : i < (upRow (fun j => (bitsG p).getD j 0) N i).length := by rw [upRow_len]; omega
        have y0 := FK.out.cell (insN_at hl2)
        rw [upRow_at _ (by omega), if_pos (by omega)] at y0
        obtain ⟨x, hx⟩ : ∃ x, x = (bitsG p).getD (i / 2) 0 := ⟨_, rfl⟩
        rw [← hx] at y0
        have HX := Ho.mk hx
        clear hx
        have y1 := FK.out.cell (insN_at hl3)
        have z1 := FK.out.free i
        have hp1 : 0 < p := by
          rcases Nat.eq_zero_or_pos p with rfl | h
          · have := HNE.out; simp at this; omega
          · exact h
        go_upto_region 8 with fail
        have BV := Ho.mk (bits_val hp9 (by rw [← HNE.out]; exact hlt) hpos)
        rw [← HX.out] at BV
        go_region
        go_wp2
        go_roundw
        case rel => 
          refine ⟨i + 1, by omega, by simp, ⟨?_⟩, ⟨?_⟩⟩
          · rw [BV.out]
            have hk := FK.out.set i (.int .i64 (((bitsG p).getD i 0 : Nat) : Int))
            rw [insN_set, upRow_set (fun j => (bitsG p).getD j 0) N i hlt] at hk
            exact hk.bel (Bel.refl _).drew
          · exact ⟨((HW.out.drew.out).setCell (by have := HBO.out; dsimp only; omega) _)⟩
        case measure => simp [intOf]; omega
    · obtain rfl : i = N := by omega
      rw [upRow_all] at FK
      go_wp2
      go_ret
      exact ⟨bo, by rw [HNE.out]; rfl, by rw [bits_map hp9, ← HNE.out]; exact FK.out, by have := HBO.out; omega, HW.out⟩
end Go.Proofs.YtnbdoidccacdnaaGreatDoor.P3
namespace Go.Proofs.YtnbdoidccacdnaaGreatDoor.M1
open M0
variable {α : Type} (O : Ops α)
theorem loopN_inv {σ : Type} {f : Nat → σ → σ} {I : Nat → σ → Prop} (n : Nat) {s : σ} (h0 : I 0 s) (h : ∀ k s, k < n → I k s → I (k + 1) (f k s)) : I n (loopN f n s) := by
  induction n with
  | zero => exact h0
  | succ n ih => exact h n _ (by omega) (ih fun k s hk => h k s (by omega))
theorem nthG_lt {l : List α} {i : Nat} (h : i < l.length) : nthG O l i = l[i] := by simp [nthG, h]
theorem nthG_set (l : List α) (i : Nat) (x : α) (j : Nat) : nthG O (l.set i x) j = if i = j ∧ i < l.length then x else nthG O l j := by
  simp only [nthG, List.getD_eq_getElem?_getD, List.getElem?_set]
  by_cases h : i = j
  · subst h
    by_cases h2 : i < l.length
    · simp [h2]
    · simp [h2]
  · simp [h]
theorem nthG_map (f : Nat → α) {n i : Nat} (h : i < n) : nthG O ((List.range n).map f) i = f i := by
  rw [nthG_lt O (by simpa using h)]; simp
def tw1 (tw : Nat → Nat × Nat) (k : Nat) (a b : α) : α × α := if k = 0 then (a, b) else cturn O a b (O.lit (tw k).1) (O.lit (tw k).2)
def mergeAt (f half : Nat) (tw : Nat → Nat × Nat) (X Y : Nat → α) (i : Nat) : α × α :=
  if f ≤ i ∧ i < f + half then cadd O (X i) (Y i) (tw1 O tw (i - f) (X (i + half)) (Y (i + half))).1 (tw1 O tw (i - f) (X (i + half)) (Y (i + half))).2
  else if f + half ≤ i ∧ i < f + 2 * half then csub O (X (i - half)) (Y (i - half)) (tw1 O tw (i - f - half) (X i) (Y i)).1 (tw1 O tw (i - f - half) (X i) (Y i)).2
  else (X i, Y i)
def mergeK (f half k : Nat) (tw : Nat → Nat × Nat) (X Y : Nat → α) (i : Nat) : α × α :=
  if f ≤ i ∧ i < f + k then cadd O (X i) (Y i) (tw1 O tw (i - f) (X (i + half)) (Y (i + half))).1 (tw1 O tw (i - f) (X (i + half)) (Y (i + half))).2
  else if f + half ≤ i ∧ i < f + half + k then csub O (X (i - half)) (Y (i - half)) (tw1 O tw (i - f - half) (X i) (Y i)).1 (tw1 O tw (i - f - half) (X i) (Y i)).2
  else (X i, Y i)
theorem mergeG_at (f half : Nat) (tw : Nat → Nat × Nat) (st : List α × List α) (h1 : f + 2 * half ≤ st.1.length) (h2 : f + 2 * half ≤ st.2.length) :
    (mergeG O f half tw st).1.length = st.1.length ∧ (mergeG O f half tw st).2.length = st.2.length ∧
    ∀ i, (nthG O (mergeG O f half tw st).1 i, nthG O (mergeG O f half tw st).2 i) = mergeAt O f half tw (nthG O st.1) (nthG O st.2) i := by
  have key := loopN_inv (f := mstep O f half tw) (I := fun k s => s.1.length = st.1.length ∧ s.2.length = st.2.length ∧ ∀ i, (nthG O s.1 i, nthG O s.2 i) = mergeK O f half k tw (nthG O st.1) (nthG O st.2) i) half (s := st)
    ⟨rfl, rfl, fun i => by unfold mergeK; rw [if_neg (by omega), if_neg (by omega)]⟩ (by
    rintro k s hk ⟨l1, l2, h⟩
    refine ⟨by simp [mstep, l1], by simp [mstep, l2], fun i => ?_⟩
    have ea : (nthG O s.1 (f + half + k), nthG O s.2 (f + half + k)) = (nthG O st.1 (f + half + k), nthG O st.2 (f + half + k)) := by
      rw [h, mergeK, if_neg (by omega), if_neg (by omega)]
    have ex : (nthG O s.1 (f + k), nthG O s.2 (f + k)) = (nthG O st.1 (f + k), nthG O st.2 (f + k)) := by
      rw [h, mergeK, if_neg (by omega), if_neg (by omega)]
    simp only [Prod.mk.injEq] at ea ex
    have et : (if k = 0 then (nthG O s.1 (f + half + k), nthG O s.2 (f + half + k)) else cturn O (nthG O s.1 (f + half + k)) (nthG O s.2 (f + half + k)) (O.lit (tw k).1) (O.lit (tw k).2)) = tw1 O tw k (nthG O st.1 (f + half + k)) (nthG O st.2 (f + half + k)) := by
      rw [ea.1, ea.2]; rfl
    simp only [mstep, et, ex.1, ex.2]
    simp only [nthG_set, List.length_set, l1, l2]
    have hi := h i
    by_cases c1 : f + half + k = i
    · subst c1
      simp only [show f + half + k < st.1.length from by omega, show f + half + k < st.2.length from by omega, and_self, if_true]
      rw [mergeK, if_neg (by omega), if_pos (by omega)]
      rw [show f + half + k - half = f + k from by omega, show f + half + k - f - half = k from by omega]; rfl
    · simp only [c1, false_and, if_false]
      by_cases c2 : f + k = i
      · subst c2
        simp only [show f + k < st.1.length from by omega, show f + k < st.2.length from by omega, and_self, if_true]
        rw [mergeK, if_pos (by omega)]
        rw [show f + k + half = f + half + k from by omega, show f + k - f = k from by omega]; rfl
      · simp only [c2, false_and, if_false]
        rw [hi]
        unfold mergeK
        by_cases d1 : f ≤ i ∧ i < f + k
        · rw [if_pos d1, if_pos (show f ≤ i ∧ i < f + (k + 1) by omega)]
        · rw [if_neg d1, if_neg (show ¬ (f ≤ i ∧ i < f + (k + 1)) by omega)]
          by_cases d2 : f + half ≤ i ∧ i < f + half + k
          · rw [if_pos d2, if_pos (show f + half ≤ i ∧ i < f + half + (k + 1) by omega)]
          · rw [if_neg d2, if_neg (show ¬ (f + half ≤ i ∧ i < f + half + (k + 1)) by omega)])
  obtain ⟨a, b, c⟩ := key
  refine ⟨a, b, fun i => (c i).trans ?_⟩
  unfold mergeK mergeAt
  rw [show f + half + half = f + 2 * half from by omega]
def stageAt (half : Nat) (tw : Nat → Nat × Nat) (X Y : Nat → α) (i : Nat) : α × α :=
  if i % (2 * half) < half then cadd O (X i) (Y i) (tw1 O tw (i % (2 * half)) (X (i + half)) (Y (i + half))).1 (tw1 O tw (i % (2 * half)) (X (i + half)) (Y (i + half))).2
  else csub O (X (i - half)) (Y (i - half)) (tw1 O tw (i % (2 * half) - half) (X i) (Y i)).1 (tw1 O tw (i % (2 * half) - half) (X i) (Y i)).2
theorem stageG_at (half many : Nat) (hp : 0 < half) (tw : Nat → Nat × Nat) (st : List α × List α) (h1 : many * (2 * half) ≤ st.1.length) (h2 : many * (2 * half) ≤ st.2.length) :
    (stageG O half many tw st).1.length = st.1.length ∧ (stageG O half many tw st).2.length = st.2.length ∧
    ∀ i, (nthG O (stageG O half many tw st).1 i, nthG O (stageG O half many tw st).2 i) = if i < many * (2 * half) then stageAt O half tw (nthG O st.1) (nthG O st.2) i else (nthG O st.1 i, nthG O st.2 i) := by
  refine loopN_inv (f := fun i st => mergeG O (i * (2 * half)) half tw st) (I := fun k s => s.1.length = st.1.length ∧ s.2.length = st.2.length ∧ ∀ i, (nthG O s.1 i, nthG O s.2 i) = if i < k * (2 * half) then stageAt O half tw (nthG O st.1) (nthG O st.2) i else (nthG O st.1 i, nthG O st.2 i)) many (s := st)
    ⟨rfl, rfl, fun i => by rw [if_neg (by omega)]⟩ ?_
  rintro k s hk ⟨l1, l2, h⟩
  have hle : (k + 1) * (2 * half) ≤ many * (2 * half) := Nat.mul_le_mul_right _ hk
  rw [Nat.succ_mul k] at hle
  obtain ⟨m1, m2, m⟩ := mergeG_at O (k * (2 * half)) half tw s (by omega) (by omega)
  refine ⟨m1.trans l1, m2.trans l2, fun i => (m i).trans ?_⟩
  rw [Nat.succ_mul k]
  have far : ∀ j, k * (2 * half) ≤ j → nthG O s.1 j = nthG O st.1 j ∧ nthG O s.2 j = nthG O st.2 j := fun j hj => by
    have := h j
    rw [if_neg (by omega)] at this
    simpa using this
  have hi := h i
  generalize hF : k * (2 * half) = F at *
  have hmod : ∀ r, r < 2 * half → i = F + r → i % (2 * half) = r := fun r hr e => by
    rw [e, ← hF, Nat.mul_comm, Nat.mul_add_mod, Nat.mod_eq_of_lt hr]
  unfold mergeAt
  by_cases c1 : F ≤ i ∧ i < F + half
  · have e := hmod (i - F) (by omega) (by omega)
    rw [if_pos c1, if_pos (by omega), stageAt, e, if_pos (by omega), (far i (by omega)).1, (far i (by omega)).2, (far (i + half) (by omega)).1, (far (i + half) (by omega)).2]
  · rw [if_neg c1]
    by_cases c2 : F + half ≤ i ∧ i < F + 2 * half
    · have e := hmod (i - F) (by omega) (by omega)
      rw [if_pos c2, if_pos (by omega), stageAt, e, if_neg (by omega), (far i (by omega)).1, (far i (by omega)).2, (far (i - half) (by omega)).1, (far (i - half) (by omega)).2]
    · rw [if_neg c2, hi]
      by_cases c3 : i < F
      · rw [if_pos c3, if_pos (by omega)]
      · rw [if_neg c3, if_neg (by omega)]
def stages (p : Nat) (tw : Nat → Nat → Nat × Nat) (n : Nat) (st : List α × List α) : List α × List α := loopN (fun q st => stageG O (2 ^ q) (2 ^ (p - (q + 1))) (tw q) st) n st
theorem pow_split {p q : Nat} (h : q < p) : 2 ^ (p - (q + 1)) * (2 * 2 ^ q) = 2 ^ p := by
  rw [← Nat.pow_succ', ← Nat.pow_add]; congr 1; omega
theorem stages_len {p : Nat} (tw : Nat → Nat → Nat × Nat) {st : List α × List α} (h1 : st.1.length = 2 ^ p) (h2 : st.2.length = 2 ^ p) {n : Nat} (hn : n ≤ p) :
    (stages O p tw n st).1.length = 2 ^ p ∧ (stages O p tw n st).2.length = 2 ^ p := by
  refine loopN_inv (I := fun k (s : List α × List α) => s.1.length = 2 ^ p ∧ s.2.length = 2 ^ p) n ⟨h1, h2⟩ ?_
  rintro q s hq ⟨a, b⟩
  have e := pow_split (show q < p by omega)
  obtain ⟨x, y, _⟩ := stageG_at O (2 ^ q) (2 ^ (p - (q + 1))) (Nat.two_pow_pos q) (tw q) s (by omega) (by omega)
  exact ⟨x.trans a, y.trans b⟩
end Go.Proofs.YtnbdoidccacdnaaGreatDoor.M1
namespace Go.Proofs.YtnbdoidccacdnaaGreatDoor.M2
open M0 M1
variable {α : Type} (O : Ops α)
structure Inv (order : List Nat) (n : Nat) : Prop where
  len : order.length = n
  lt : ∀ k, k < n → order.getD k 0 < n
  back : ∀ k, k < n → order.getD (order.getD k 0) 0 = k
def invOk (p : Nat) : Bool :=
  let l := bitsG p
  l.length == 2 ^ p && (List.range (2 ^ p)).all (fun k => decide (l.getD k 0 < 2 ^ p) && l.getD (l.getD k 0) 0 == k)
theorem inv_ok : ∀ p : Fin 8, invOk p.val = true := by decide +kernel
theorem inv_bits {p : Nat} (hp : p ≤ 7) : Inv (bitsG p) (2 ^ p) := by
  have h := inv_ok ⟨p, by omega⟩
  unfold invOk at h
  simp only [Bool.and_eq_true, beq_iff_eq, List.all_eq_true, List.mem_range, decide_eq_true_eq] at h
  exact ⟨h.1, fun k hk => (h.2 k hk).1, fun k hk => (h.2 k hk).2⟩
end Go.Proofs.YtnbdoidccacdnaaGreatDoor.M2
namespace Go.Proofs.YtnbdoidccacdnaaGreatDoor.W1
open Ieee Go Gp Gq Gr W0
structure Nm (x : Nat) : Prop where
  lt : x < 2 * sgnW
  fin : frung x < infR
  cl : cn x = x
theorem nm_zero : Nm 0 := ⟨by decide, by decide, cn_zero⟩
def R (v : Int) (s : Nat) : Nat := cn (double.word (decide (v < 0)) (min (rung v.natAbs s) infR))
theorem nm_inj {x y : Nat} (hx : Nm x) (hy : Nm y) (h : V x = V y) : x = y := by
  by_cases h0 : frung x = 0
  · have h1 : frung y = 0 := V_zero_iff.1 (h ▸ V_zero_iff.2 h0)
    have a := hx.cl; have b := hy.cl
    unfold cn at a b
    rw [if_neg (by rw [h0]; decide), if_pos h0] at a
    rw [if_neg (by rw [h1]; decide), if_pos h1] at b
    omega
  · exact V_inj hx.lt hy.lt h h0
theorem fng_facts {x : Nat} (hx : Nm x) : Nm (fng x) ∧ V (fng x) = - V x := by
  have e := xor_top' x hx.lt
  have hl := (word_split hx.lt).2
  have hf : fng x = cn (double.word (!fneg x) (frung x)) := by unfold fng; rw [e]
  rw [word_parts _ (Nat.le_of_lt hx.fin)] at hf
  by_cases h0 : frung x = 0
  · rw [if_pos h0] at hf
    rw [hf, V_zero_iff.2 h0]
    exact ⟨nm_zero, by decide⟩
  · rw [if_neg h0] at hf
    refine ⟨⟨fng_lt hx.lt, ?_, cn_fng x⟩, ?_⟩
    · rw [hf, (word_neg _ hl).2]; exact hx.fin
    · rw [hf, V_word _ hl, V_sv]; unfold sv; cases fneg x <;> simp
theorem fng_fng {x : Nat} (hx : Nm x) : fng (fng x) = x := by
  obtain ⟨h1, h2⟩ := fng_facts hx
  obtain ⟨h3, h4⟩ := fng_facts h1
  exact nm_inj h3 hx (by rw [h4, h2]; omega)
end Go.Proofs.YtnbdoidccacdnaaGreatDoor.W1
namespace Go.Proofs.YtnbdoidccacdnaaGreatDoor.W2
open Ieee Go Gp Gq Gr W0 W1
def P2 (e : Nat) : Nat := e * bn
theorem cls {x : Nat} (h : x < 2 * sgnW) (hc : cn x = x) : Nm x ∨ frung x = infR ∨ x = qn := by
  rcases Nat.lt_trichotomy (frung x) infR with q | q | q
  · exact .inl ⟨h, q, hc⟩
  · exact .inr (.inl q)
  · exact .inr (.inr (by rw [← hc]; exact cn_nan q))
end Go.Proofs.YtnbdoidccacdnaaGreatDoor.W2
namespace Go.Proofs.YtnbdoidccacdnaaGreatDoor.M3
open Gp W0 W1 W2 M0 M1 M2
def opsN : Ops Nat := ⟨fadd, fsub, fmul, fng, fun n => n⟩
end Go.Proofs.YtnbdoidccacdnaaGreatDoor.M3
namespace Go.Proofs.YtnbdoidccacdnaaGreatDoor.W4
open Ieee Go Go.RowKit Go.Proofs Go.Proofs.YtnbdoidccacdnaaGreatDoor Ow Dt Gp W0 M0 M1 M3
structure Fz (w : World) (b : Nat) (X : List Nat) : Prop where
  out : ∃ cs : List Value, Blk w b 50 cs ∧ ∀ j, j < X.length → ∃ v, cs[j]? = some v ∧ Fc v (nthN X j)
theorem _root_.Go.Proofs.YtnbdoidccacdnaaGreatDoor.W0.Fk.fz {w : World} {b : Nat} {X : List Nat} (h : Fk w b X) : Fz w b X := by
  obtain ⟨cs, h1, h2, h3⟩ := h.out
  exact ⟨cs, h1, fun j hj => ⟨cs[j], List.getElem?_eq_getElem (by omega), h3 j _ (List.getElem?_eq_getElem (by omega))⟩⟩
theorem Fz.bel {w w' : World} {b : Nat} {X : List Nat} (h : Fz w b X) (g : Bel w w') : Fz w' b X := by
  obtain ⟨cs, h1, h2⟩ := h.out; exact ⟨cs, h1.bel g, h2⟩
theorem Fz.lt {w : World} {b : Nat} {X : List Nat} (h : Fz w b X) : b < w.heap.size := by obtain ⟨cs, h1, _⟩ := h.out; exact h1.lt
theorem Fz.far {w : World} {b : Nat} {X : List Nat} (h : Fz w b X) {p : Addr} (hp : b ≠ p.block) (v : Value) : Fz (w.setCell p v) b X := by
  obtain ⟨cs, h1, h2⟩ := h.out; exact ⟨cs, h1.far hp v, h2⟩
theorem Fz.at_ {w : World} {b : Nat} {X : List Nat} (h : Fz w b X) {i : Nat} (hi : i < X.length) : ∃ r, w.cell? ⟨b, i, none⟩ = some (.float .f64 r) ∧ r < 2 * sgnW ∧ cn r = nthN X i := by
  obtain ⟨cs, h1, h2⟩ := h.out
  obtain ⟨v, hv, r, rfl, k1, k2⟩ := h2 i hi
  exact ⟨r, h1.cell hv, k1, k2⟩
theorem Fz.free {w : World} {b : Nat} {X : List Nat} (h : Fz w b X) (i : Nat) : w.frozen? ⟨b, i, none⟩ = false := by
  obtain ⟨cs, h1, _⟩ := h.out; exact h1.free i
theorem Fz.set {w : World} {b : Nat} {X : List Nat} (h : Fz w b X) (i : Nat) {r x : Nat} (hr : r < 2 * sgnW) (hx : cn r = x) : Fz (w.setCell ⟨b, i, none⟩ (.float .f64 r)) b (X.set i x) := by
  obtain ⟨cs, h1, h2⟩ := h.out
  refine ⟨cs.set i (.float .f64 r), h1.set i _, fun j hj => ?_⟩
  rw [List.length_set] at hj
  obtain ⟨v, hv, hf⟩ := h2 j hj
  have hjc : j < cs.length := (List.getElem?_eq_some_iff.1 hv).1
  rw [nthN_set]
  by_cases e : i = j
  · subst e
    refine ⟨.float .f64 r, by rw [List.getElem?_set]; simp [hjc], ?_⟩
    rw [if_pos ⟨rfl, hj⟩]
    exact ⟨r, rfl, hr, hx⟩
  · refine ⟨v, by rw [List.getElem?_set, if_neg e]; exact hv, ?_⟩
    rw [if_neg (fun q => e q.1)]; exact hf
theorem Fz.fr {w : World} {b : Nat} {X : List Nat} (h : Fz w b X) (hm : X.length ≤ 35184372088831) : Fr w (some ⟨b, 0, none⟩) X :=
  ⟨hm, fun j hj => by
    obtain ⟨r, hc, k1, k2⟩ := h.at_ hj
    exact ⟨_, _, rfl, by rw [add_lit, Nat.zero_add]; exact hc, r, rfl, k1, k2⟩⟩
structure Gr2 (b c : Nat) (w w' : World) : Prop where
  os : w'.os = w.os
  tape : w'.tape = w.tape
  output : w'.output = w.output
  size : w.heap.size ≤ w'.heap.size
  block : ∀ k, k < w.heap.size → k ≠ b → k ≠ c → w'.heap[k]? = w.heap[k]?
theorem Gr2.refl (b c : Nat) (w : World) : Gr2 b c w w := ⟨rfl, rfl, rfl, Nat.le_refl _, fun _ _ _ _ => rfl⟩
theorem Gr2.trans {b c : Nat} {u v w : World} (h : Gr2 b c u v) (k : Gr2 b c v w) : Gr2 b c u w :=
  ⟨k.os.trans h.os, k.tape.trans h.tape, k.output.trans h.output, Nat.le_trans h.size k.size, fun i hi n1 n2 => (k.block i (Nat.lt_of_lt_of_le hi h.size) n1 n2).trans (h.block i hi n1 n2)⟩
theorem gr2_bel {w w' : World} (h : Bel w w') (b c : Nat) : Gr2 b c w w' := ⟨h.out.os, h.out.tape, h.out.output, h.out.size, fun k hk _ _ => h.out.block k hk⟩
theorem Gr2.tb {b c : Nat} {u v w : World} (h : Gr2 b c u v) (k : Bel v w) : Gr2 b c u w := h.trans (gr2_bel k b c)
theorem Gr2.alloc {b c : Nat} {u v : World} (h : Gr2 b c u v) (o : Obj) : Gr2 b c u (v.alloc o) := h.tb ((Bel.refl v).alloc o)
theorem Gr2.drew {b c : Nat} {u v : World} (h : Gr2 b c u v) : Gr2 b c u v.drew := h.tb (Bel.refl v).drew
theorem Gr2.set {b c : Nat} {u v : World} (h : Gr2 b c u v) {p : Addr} (hp : p.block = b ∨ p.block = c) (x : Value) : Gr2 b c u (v.setCell p x) :=
  h.trans ⟨rfl, rfl, rfl, by simp [World.setCell], fun k _ n1 n2 => Below.heap_setCell _ _ _ _ (by rcases hp with e | e <;> rw [e] <;> assumption)⟩
theorem Gr2.setNew {b c : Nat} {u v : World} (h : Gr2 b c u v) {p : Addr} (hp : u.heap.size ≤ p.block) (x : Value) : Gr2 b c u (v.setCell p x) :=
  ⟨h.os, h.tape, h.output, by have := h.size; simpa [World.setCell] using this, fun k hk n1 n2 => (Below.heap_setCell _ _ _ _ (by omega)).trans (h.block k hk n1 n2)⟩
theorem Gr2.blk {b c : Nat} {w w' : World} (h : Gr2 b c w w') {b' : Nat} {t : TypeId} {cs : List Value} (k : Blk w b' t cs) (n1 : b' ≠ b) (n2 : b' ≠ c) : Blk w' b' t cs := ⟨by rw [h.block b' k.lt n1 n2]; exact k.out⟩
theorem Gr2.fz {b c : Nat} {w w' : World} (h : Gr2 b c w w') {b' : Nat} {X : List Nat} (k : Fz w b' X) (n1 : b' ≠ b) (n2 : b' ≠ c) : Fz w' b' X := by
  obtain ⟨cs, h1, h2⟩ := k.out; exact ⟨cs, h.blk h1 n1 n2, h2⟩
theorem Gr2.of1 {b c : Nat} {w w' : World} (h : Gr b w w') : Gr2 b c w w' := ⟨h.os, h.tape, h.output, h.size, fun k hk n1 _ => h.block k hk n1⟩
theorem Gr2.of2 {b c : Nat} {w w' : World} (h : Gr c w w') : Gr2 b c w w' := ⟨h.os, h.tape, h.output, h.size, fun k hk _ n2 => h.block k hk n2⟩
theorem Gr2.tab {b c : Nat} {w w' : World} (h : Gr2 b c w w') (T : Tab w) (n1 : 2 ≠ b) (n2 : 2 ≠ c) : Tab w' :=
  ⟨fun i hi => by have := T.cell i hi; unfold World.cell? at this ⊢; rw [h.block 2 (I4.Tab.lt T) n1 n2]; exact this⟩
theorem Gr2.bel {b c : Nat} {u w w' : World} (h : Gr2 b c w w') (k : Bel u w) (hb : u.heap.size ≤ b) (hc : u.heap.size ≤ c) : Bel u w' :=
  ⟨k.out.trans ⟨h.os, h.tape, h.output, h.size, fun i hi => h.block i (by have := k.size; omega) (by omega) (by omega)⟩⟩
theorem gr_fz {b : Nat} {w w' : World} (h : Gr b w w') {b' : Nat} {X : List Nat} (k : Fz w b' X) (n1 : b' ≠ b) : Fz w' b' X := by
  obtain ⟨cs, h1, h2⟩ := k.out; exact ⟨cs, h.blk h1 n1, h2⟩
end Go.Proofs.YtnbdoidccacdnaaGreatDoor.W4
namespace Go.Proofs.YtnbdoidccacdnaaGreatDoor.P4
open Ieee Go Go.RowKit Go.Proofs Go.Proofs.YtnbdoidccacdnaaGreatDoor Ow Pl Dp Dt Gp F1 I0 W0 S4 P0 M0 M1 M3 P3 W4
attribute [local go_sem ↓] Go.wp_at_zero Go.wp_at_succ
def logI (n : Nat) : Int := if n ≠ 0 ∧ 2 ^ Nat.log2 n = n ∧ n ≤ 1024 then (Nat.log2 n : Int) else -1
def logOk (n : Nat) : Bool := n == 0 || ((bits .and .i64 (n : Int) ((n : Int) - 1) == 0) == decide (2 ^ Nat.log2 n = n) && (decide (2 ^ Nat.log2 n ≠ n) || tz n == Nat.log2 n))
theorem log_ok : ∀ n : Fin 1100, logOk n.val = true := by decide +kernel
theorem log_fact {n : Nat} (h : n < 1100) (h0 : n ≠ 0) : ((bits .and .i64 (n : Int) ((n : Int) - 1) = 0) ↔ 2 ^ Nat.log2 n = n) ∧ (2 ^ Nat.log2 n = n → tz n = Nat.log2 n) := by
  have := log_ok ⟨n, h⟩
  unfold logOk at this
  simp only [Bool.or_eq_true, Bool.and_eq_true, beq_iff_eq, decide_eq_true_eq] at this
  rcases this with q | ⟨q1, q2⟩
  · exact (h0 q).elim
  · constructor
    · constructor
      · intro e; rw [e] at q1; simpa using q1
      · intro e; rw [e] at q1; simpa using q1
    · intro e; exact q2.resolve_left (fun c => c e)
set_option maxRecDepth 100000 in
set_option maxHeartbeats 4000000 in
theorem dLog {n : Nat} {fn : Nat} (hfn : fn = 100) (w : World) (h : n < 1100) (T : Tab w) : Calls Tryz.prog fn #[.int .i64 (n : Int)] w fun e w' => e = .returned (.int .i64 (logI n)) ∧ w = w' := by
  have TT := Ho.mk T
  clear T
  subst hfn
  obtain ⟨k, hk⟩ : ∃ k : Int, k = (n : Int) := ⟨_, rfl⟩
  by_cases h0 : n = 0
  · subst h0
    have e : logI 0 = -1 := by decide
    rw [e]
    go_enter Tryz.func100, Tryz.ntmps100
    go_wp2
    go_ret
    exact ⟨rfl, rfl⟩
  · obtain ⟨f1, f2⟩ := log_fact h h0
    have F2 := Ho.mk f2
    have hk0 : 0 < k := by omega
    have hk1 : k < 1100 := by omega
    by_cases hp : 2 ^ Nat.log2 n = n
    · have hb : bits .and .i64 k (k - 1) = 0 := by rw [hk]; exact f1.2 hp
      have HE := Ho.mk (show logI n = if n ≤ 1024 then (Nat.log2 n : Int) else -1 by unfold logI; by_cases c : n ≤ 1024 <;> simp [h0, hp, c])
      have HT := Ho.mk (f2 hp)
      rw [HE.out, ← hk]
      have HK := Ho.mk hk
      clear f1 f2 hp h0 hk
      by_cases c : 1024 < k
      · rw [if_neg (by have := HK.out; omega)]
        go_enter Tryz.func100, Tryz.ntmps100
        go_wp2
        go_ret
        exact ⟨rfl, rfl⟩
      · rw [if_pos (by have := HK.out; omega)]
        go_enter Tryz.func100, Tryz.ntmps100
        go_wp2_with (go_at_call 120; (with_reducible refine (E1.tz_callsI _ _ (by omega) (by omega) TT.out).mono ?_); rintro e w' ⟨rfl, rfl⟩)
        go_ret
        refine ⟨?_, rfl⟩
        rw [show k.toNat = n by have := HK.out; omega, HT.out]; rfl
    · have hb : ¬ bits .and .i64 k (k - 1) = 0 := by rw [hk]; exact fun e => hp (f1.1 e)
      have HE : logI n = -1 := by unfold logI; rw [if_neg (fun q => hp q.2.1)]
      rw [HE, ← hk]
      clear f1 f2 hp h0 hk HE F2
      go_enter Tryz.func100, Tryz.ntmps100
      go_wp2
      go_ret
      exact ⟨rfl, rfl⟩
end Go.Proofs.YtnbdoidccacdnaaGreatDoor.P4
namespace Go.Proofs.YtnbdoidccacdnaaGreatDoor.P5
open Ieee Go Go.RowKit Go.Proofs Go.Proofs.YtnbdoidccacdnaaGreatDoor Ow Pl Dp Dt Gp F1 I0 W0 S4 P0 M0 M1 M3 P3 W4
attribute [local go_sem ↓] Go.wp_at_zero Go.wp_at_succ
def swapK (od X : List Nat) (k : Nat) : List Nat := loopN (fun k l => swapAt opsN l k (od.getD k 0)) k X
theorem swapK_len (od X : List Nat) (k : Nat) : (swapK od X k).length = X.length := by
  refine loopN_inv (I := fun _ (s : List Nat) => s.length = X.length) k rfl ?_
  intro k s _ h
  show (swapAt opsN s k _).length = _
  unfold swapAt; split <;> simp [h]
theorem swapK_succ (od X : List Nat) (k : Nat) : swapK od X (k + 1) = swapAt opsN (swapK od X k) k (od.getD k 0) := rfl
set_option maxRecDepth 100000 in
set_option maxHeartbeats 8000000 in
theorem dSwap {b bo c co N : Nat} {X od : List Nat} (W0 : World) (KX : Fz W0 b X) (KO : Blk W0 bo 3 (insN od)) (hX : X.length = N) (hO : od.length = N) (hlt : ∀ k, k < N → od.getD k 0 < N) (hN : N ≤ 100000) (hne : bo ≠ b) :
    Calls Tryz.prog 102 #[.slice (some ⟨b, 0, none⟩) N c, .slice (some ⟨bo, 0, none⟩) N co] W0
      fun e w' => e = .returned (.tuple #[]) ∧ Fz w' b (swapG opsN od X) ∧ Gr b W0 w' := by
  have HL := Ho.mk hlt
  have K1 := Ho.mk KX
  have K2 := Ho.mk KO
  have HX := Ho.mk hX
  have HO := Ho.mk hO
  clear hlt KX KO hX hO
  go_enter Tryz.func102, Tryz.ntmps102
  go_wp2_with fail
  go_loopw [8] (fun v wr => ∃ (i : Nat), i ≤ N ∧ v = .int .i64 i ∧ Ho (Fz wr b (swapK od X i)) ∧ Ho (Gr b W0 wr)) (fun v _ => N - (intOf v).toNat)
  case atStart => exact ⟨0, Nat.zero_le _, rfl, K1, ⟨Gr.refl _ _⟩⟩
  case round =>
    obtain ⟨i, hi, rfl, FK, HW⟩ := hrel
    rcases Nat.lt_or_ge i N with hlt | hge
    · have y0 := (HW.out.blk K2.out hne).cell (insN_at (show i < od.length by rw [HO.out]; exact hlt))
      obtain ⟨x, hx⟩ : ∃ x, x = od.getD i 0 := ⟨_, rfl⟩
      have hxN := HL.out i hlt
      rw [← hx] at y0 hxN
      have HXX := Ho.mk hx
      clear hx
      have hl1 : i < (swapK od X i).length := by rw [swapK_len, HX.out]; exact hlt
      have hl2 : x < (swapK od X i).length := by rw [swapK_len, HX.out]; exact hxN
      obtain ⟨r1, y1, r1l, r1c⟩ := FK.out.at_ hl1
      obtain ⟨r2, y2, r2l, r2c⟩ := FK.out.at_ hl2
      have z1 := FK.out.free i
      have z2 := FK.out.free x
      have HR := Ho.mk (And.intro (And.intro r1l r1c) (And.intro r2l r2c))
      clear r1l r1c r2l r2c hl1 hl2
      by_cases hc : (i : Int) < (x : Int)
      · --@@
        go_upto_region 4 with fail
        go_region
        go_wp2
        go_roundw
        case rel =>
          refine ⟨i + 1, by omega, by simp, ⟨?_⟩, ⟨?_⟩⟩
          · rw [swapK_succ, ← HXX.out, swapAt, if_pos (by omega)]
            have hk := (FK.out.set i HR.out.2.1 (x := nthN (swapK od X i) x) HR.out.2.2).set x HR.out.1.1 (x := nthN (swapK od X i) i) HR.out.1.2
            exact hk.bel (Bel.refl _).drew
          · exact ((HW.out.drew).set i _).set x _
        case measure => simp [intOf]; omega
      · go_wp2
        go_roundw
        case rel =>
          refine ⟨i + 1, by omega, by simp, ⟨?_⟩, HW⟩
          rw [swapK_succ, ← HXX.out, swapAt, if_neg (by omega)]; exact FK.out
        case measure => simp [intOf]; omega
    · obtain rfl : i = N := by omega
      go_wp2
      go_end0
      exact ⟨rfl, by unfold swapG; rw [HO.out]; exact FK.out, HW.out⟩
end Go.Proofs.YtnbdoidccacdnaaGreatDoor.P5
namespace Go.Proofs.YtnbdoidccacdnaaGreatDoor.P6
open Ieee Go Go.RowKit Go.Proofs Go.Proofs.YtnbdoidccacdnaaGreatDoor Ow Pl Dp Dt Gp F1 I0 W0 S4 S6 P0 M0 M1 M3 P3 P4 W4
attribute [local go_sem ↓] Go.wp_at_zero Go.wp_at_succ
def TellsV (W0 : World) (v0 v1 : Value) (e : Ending) (w' : World) : Prop := e = .returned (.agg #[v0, v1]) ∧ Bel W0 w'
set_option maxRecDepth 100000 in
set_option maxHeartbeats 8000000 in
theorem dPart {b b' o n m f t c c' : Nat} (w : World) (hft : f < t) (htc : t ≤ c) (htc' : t ≤ c') (hn : n ≤ c) (hm : m ≤ c') (hc : c ≤ 9223372036854775807) (hc' : c' ≤ 9223372036854775807) :
    Calls Tryz.prog 105 #[.agg #[.slice (some ⟨b, o, none⟩) n c, .slice (some ⟨b', o, none⟩) m c'], .int .i64 (f : Int), .int .i64 (t : Int)] w
      (TellsV w (.slice (some ⟨b, o + f, none⟩) (t - f) (c - f)) (.slice (some ⟨b', o + f, none⟩) (t - f) (c' - f))) := by
  go_enter Tryz.func105, Tryz.ntmps105
  have KV := Ho.mk ((Blk.new w [.slice (some ⟨b, o, none⟩) n c, .slice (some ⟨b', o, none⟩) m c'] 24).old (.cells #[.slice none 0 0, .slice none 0 0] 24))
  have KR := Ho.mk (Blk.new (w.alloc (.cells #[.slice (some ⟨b, o, none⟩) n c, .slice (some ⟨b', o, none⟩) m c'] 24)) [.slice none 0 0, .slice none 0 0] 24)
  have g0 := Ho.mk (((Bel.refl w).alloc (.cells #[.slice (some ⟨b, o, none⟩) n c, .slice (some ⟨b', o, none⟩) m c'] 24)).alloc (.cells #[.slice none 0 0, .slice none 0 0] 24))
  rw [World.size_alloc] at KR
  go_wp2_with fail
  generalize (w.alloc (.cells #[.slice (some ⟨b, o, none⟩) n c, .slice (some ⟨b', o, none⟩) m c'] 24)).alloc (.cells #[.slice none 0 0, .slice none 0 0] 24) = W at *
  have y0 := KV.out.cell (i := 0) rfl
  have y1 := KV.out.cell (i := 1) rfl
  have x0 := KR.out.cell (i := 0) rfl
  have x1 := KR.out.cell (i := 1) rfl
  have z0 := KR.out.free 0
  have z1 := KR.out.free 1
  --@@
  go_region
  go_wp2
  exact bodyPost_ret (resV (fn := Tryz.f105) rfl rfl ((KR.out.drew.set 0 _).set 1 _)) rfl ⟨rfl, ⟨((g0.out.out.drew).setCell (p := ⟨w.heap.size + 1, 0, none⟩) (by dsimp only; omega) _).setCell (p := ⟨w.heap.size + 1, 1, none⟩) (by dsimp only; omega) _⟩⟩
set_option maxRecDepth 100000 in
set_option maxHeartbeats 8000000 in
theorem dRightV {n m c c' : Nat} {A B : Option Addr} (w : World) (T : Tab w) (hn : n < 1100) (hm : m < 1100) :
    Calls Tryz.prog 99 #[.agg #[.slice A n c, .slice B m c']] w (fun e w' => e = .returned (.bool (decide (n = m ∧ 0 ≤ logI n))) ∧ Bel w w') := by
  have lg := (fun w' (g : Bel w w') => dLog (fn := 100) rfl w' hn (T.bel g))
  generalize logI n = z at *
  have LG := Ho.mk lg
  clear lg
  have KV := Ho.mk (Blk.new w [.slice A n c, .slice B m c'] 24)
  have g0 := Ho.mk ((Bel.refl w).alloc (.cells #[.slice A n c, .slice B m c'] 24))
  by_cases he : n = m
  · subst he
    go_enter Tryz.func99, Tryz.ntmps99
    go_wp2_with (go_at_call 100; (with_reducible refine (LG.out _ g0.out).mono ?_); rintro e w' ⟨rfl, rfl⟩)
    go_ret
    exact ⟨by simp, g0.out⟩
  · have hne : ¬ (n : Int) = (m : Int) := by omega
    go_enter Tryz.func99, Tryz.ntmps99
    go_wp2_with fail
    go_ret
    exact ⟨by simp [hne, he], g0.out⟩
set_option maxRecDepth 100000 in
set_option maxHeartbeats 8000000 in
theorem dAt {k p q m bw bp bq bc bs : Nat} {CX SX : List Nat} (w : World) (KW : Blk w bw 24 [.slice (some ⟨bc, 0, none⟩) m m, .slice (some ⟨bs, 0, none⟩) m m]) (KP : Blk w bp 3 [.int .i64 (p : Int)]) (KQ : Blk w bq 3 [.int .i64 (q : Int)])
    (FC : Fk w bc CX) (FS : Fk w bs SX) (hp : p ≤ 9) (hq : q ≤ p) (hk : k < 512) (hi : k * 2 ^ (p - q) < m) (hC : CX.length = m) (hS : SX.length = m) (hm : m < 1000000) :
    Calls Tryz.prog 103 #[.int .i64 (k : Int), .pointer (some ⟨bw, 0, none⟩), .pointer (some ⟨bp, 0, none⟩), .pointer (some ⟨bq, 0, none⟩)] w (Tells2 w (nthN CX (k * 2 ^ (p - q)), nthN SX (k * 2 ^ (p - q)))) := by
  have y0 := KW.cell (i := 0) rfl
  have y1 := KW.cell (i := 1) rfl
  have y2 := KP.cell (i := 0) rfl
  have y3 := KQ.cell (i := 0) rfl
  obtain ⟨r, y4, r1, r2⟩ := FC.at_ (i := k * 2 ^ (p - q)) (by omega)
  obtain ⟨s, y5, s1, s2⟩ := FS.at_ (i := k * 2 ^ (p - q)) (by omega)
  have HR := Ho.mk (And.intro (And.intro r1 r2) (And.intro s1 s2))
  have hpq : IntKind.i64.wrap ((p : Int) - (q : Int)) = ((p - q : Nat) : Int) := by rw [IntKind.wrap_i64]; omega
  have hsh : IntKind.i64.wrap ((k : Int) * 2 ^ (p - q)) = ((k * 2 ^ (p - q) : Nat) : Int) := by
    have e : ((k : Int) * 2 ^ (p - q)) = ((k * 2 ^ (p - q) : Nat) : Int) := by push_cast; rfl
    rw [e, IntKind.wrap_i64]
    generalize k * 2 ^ (p - q) = z at *
    omega
  generalize k * 2 ^ (p - q) = z at *
  have hd9 : p - q ≤ 9 := by omega
  generalize p - q = d at *
  clear KW KP KQ FC FS hC hS r1 r2 s1 s2
  go_enter Tryz.func103, Tryz.ntmps103
  go_upto_region 1 with fail
  go_region
  go_wp2
  go_ret2
  exact ⟨r, s, rfl, ⟨HR.out.1.1, HR.out.2.1⟩, ⟨HR.out.1.2, HR.out.2.2⟩, (Bel.refl _).drew⟩
end Go.Proofs.YtnbdoidccacdnaaGreatDoor.P6
namespace Go.Proofs.YtnbdoidccacdnaaGreatDoor.I8
open Go Go.RowKit Go.Proofs.YtnbdoidccacdnaaGreatDoor I0
section
variable {P : Program} {ops : Array Oper} {Q : Exit → Act → World → Prop} {md : Region.Mode} {S : World → Prop}
theorem rc3 {i j k : Nat} {o o' o'' : Oper} {rest rest' rest'' : List Oper} {fuel : Nat} {listed : Array Bool} {a : Act} {w : World}
    (h : ∀ K' : Act → World → Prop, Shut (∀ a w, S w → (S w → wpAnyH P md ops Q S fuel (listed.setIfInBounds i true) a w) → K' a w) → Oper.wp P o a w K' Q)
    (h' : ∀ K' : Act → World → Prop, Shut (∀ a w, S w → (S w → wpAnyH P md ops Q S fuel (listed.setIfInBounds j true) a w) → K' a w) → Oper.wp P o' a w K' Q)
    (h'' : ∀ K' : Act → World → Prop, Shut (∀ a w, S w → (S w → wpAnyH P md ops Q S fuel (listed.setIfInBounds k true) a w) → K' a w) → Oper.wp P o'' a w K' Q)
    (hr : Region.ready md ops listed = [i, j, k] := by kernel_rfl) (hi : ops.toList.drop i = o :: rest := by rfl) (hj : ops.toList.drop j = o' :: rest' := by rfl) (hk : ops.toList.drop k = o'' :: rest'' := by rfl)
    (hw : Region.wanted o (yielded ops a.tmps) = true := by kernel_rfl) (hw' : Region.wanted o' (yielded ops a.tmps) = true := by kernel_rfl) (hw'' : Region.wanted o'' (yielded ops a.tmps) = true := by kernel_rfl) : wpAnyH P md ops Q S (fuel + 1) listed a w :=
  wpAnyH_ready hr (by simp) (AllReadyH.cons (ops_at hi) (fun K' hK => by rw [if_pos hw]; exact h K' hK) (AllReadyH.cons (ops_at hj) (fun K' hK => by rw [if_pos hw']; exact h' K' hK) (AllReadyH.cons (ops_at hk) (fun K' hK => by rw [if_pos hw'']; exact h'' K' hK) AllReadyH.nil)))
end
end Go.Proofs.YtnbdoidccacdnaaGreatDoor.I8
namespace Go.Proofs.YtnbdoidccacdnaaGreatDoor.P7
open Ieee Go Go.RowKit Go.Proofs Go.Proofs.YtnbdoidccacdnaaGreatDoor Ow Pl Dp Dt Gp F1 I0 W0 S4 P0 P1 P2 M0 M1 M3 P3 P4 P6 W4
attribute [local go_sem ↓] Go.wp_at_zero Go.wp_at_succ
def mergeS (f half : Nat) (tw : Nat → Nat × Nat) (st : List Nat × List Nat) (k : Nat) : List Nat × List Nat := loopN (mstep opsN f half tw) k st
theorem mergeS_len (f half : Nat) (tw : Nat → Nat × Nat) (st : List Nat × List Nat) (k : Nat) : (mergeS f half tw st k).1.length = st.1.length ∧ (mergeS f half tw st k).2.length = st.2.length := by
  refine loopN_inv (I := fun _ (s : List Nat × List Nat) => s.1.length = st.1.length ∧ s.2.length = st.2.length) k ⟨rfl, rfl⟩ ?_
  intro k s _ h
  simp only [mstep, List.length_set]; exact h
theorem mergeS_succ (f half : Nat) (tw : Nat → Nat × Nat) (st : List Nat × List Nat) (k : Nat) : mergeS f half tw st (k + 1) = mstep opsN f half tw k (mergeS f half tw st k) := rfl
set_option maxRecDepth 100000 in
set_option maxHeartbeats 16000000 in
theorem dMerge {half f c c' b b' bw bp bq N : Nat} {X Y : List Nat} {tw : Nat → Nat × Nat} (W0 : World) (KX : Fz W0 b X) (KY : Fz W0 b' Y) (hb : b ≠ b') (hX : X.length = N) (hY : Y.length = N) (hf : f + 2 * half ≤ N) (h0 : 0 < half) (hN : N ≤ 100000) (hc : 2 * half ≤ c) (hc' : 2 * half ≤ c') (hC : c ≤ 9223372036854775807) (hC' : c' ≤ 9223372036854775807)
    (AT : ∀ k, 0 < k → k < half → ∀ w, Gr2 b b' W0 w → Calls Tryz.prog 103 #[.int .i64 (k : Int), .pointer (some ⟨bw, 0, none⟩), .pointer (some ⟨bp, 0, none⟩), .pointer (some ⟨bq, 0, none⟩)] w (Tells2 w (tw k))) :
    Calls Tryz.prog 104 #[.agg #[.slice (some ⟨b, f, none⟩) (2 * half) c, .slice (some ⟨b', f, none⟩) (2 * half) c'], .func (.func 103) #[] #[.pointer (some ⟨bw, 0, none⟩), .pointer (some ⟨bp, 0, none⟩), .pointer (some ⟨bq, 0, none⟩)]] W0
      fun e w' => e = .returned (.tuple #[]) ∧ Fz w' b (mergeG opsN f half tw (X, Y)).1 ∧ Fz w' b' (mergeG opsN f half tw (X, Y)).2 ∧ Gr2 b b' W0 w' := by
  have PT1 : Ho (∀ w, Calls Tryz.prog 105 #[.agg #[.slice (some ⟨b, f, none⟩) (2 * half) c, .slice (some ⟨b', f, none⟩) (2 * half) c'], .int .i64 0, .int .i64 (half : Int)] w (TellsV w (.slice (some ⟨b, f, none⟩) half c) (.slice (some ⟨b', f, none⟩) half c'))) :=
    ⟨fun w => by have h := dPart (b := b) (b' := b') (o := f) (n := 2 * half) (m := 2 * half) (f := 0) (t := half) (c := c) (c' := c') w h0 (by omega) (by omega) hc hc' hC hC'; simpa using h⟩
  have PT2 : Ho (∀ w, Calls Tryz.prog 105 #[.agg #[.slice (some ⟨b, f, none⟩) (2 * half) c, .slice (some ⟨b', f, none⟩) (2 * half) c'], .int .i64 (half : Int), .int .i64 (2 * (half : Int))] w (TellsV w (.slice (some ⟨b, f + half, none⟩) half (c - half)) (.slice (some ⟨b', f + half, none⟩) half (c' - half)))) :=
    ⟨fun w => by have h := dPart (b := b) (b' := b') (o := f) (n := 2 * half) (m := 2 * half) (f := half) (t := 2 * half) (c := c) (c' := c') w (by omega) hc hc' hc hc' hC hC'; rw [show 2 * half - half = half by omega, show ((2 * half : Nat) : Int) = 2 * (half : Int) by omega] at h; exact h⟩
  have K1 := Ho.mk KX
  have K2 := Ho.mk KY
  have A0 := Ho.mk AT
  have HX := Ho.mk hX
  have HY := Ho.mk hY
  have KV := Ho.mk (Blk.new W0 [.slice (some ⟨b, f, none⟩) (2 * half) c, .slice (some ⟨b', f, none⟩) (2 * half) c'] 24)
  have g0 := Ho.mk ((Bel.refl W0).alloc (.cells #[.slice (some ⟨b, f, none⟩) (2 * half) c, .slice (some ⟨b', f, none⟩) (2 * half) c'] 24))
  have lb := KX.lt
  have lb' := KY.lt
  clear KX KY AT hX hY
  go_enter Tryz.func104, Tryz.ntmps104
  go_upto_region 2 with fail
  have hs : (W0.alloc (.cells #[.slice (some ⟨b, f, none⟩) (2 * half) c, .slice (some ⟨b', f, none⟩) (2 * half) c'] 24)).heap.size = W0.heap.size + 1 := World.size_alloc _ _
  generalize W0.alloc (.cells #[.slice (some ⟨b, f, none⟩) (2 * half) c, .slice (some ⟨b', f, none⟩) (2 * half) c'] 24) = W at *
  have y0 := KV.out.cell (i := 0) rfl
  have y1 := KV.out.cell (i := 1) rfl
  go_cut [5, 6] from 14 to 26 (fun s5 s6 wy => ∃ (bE bO : Nat), s5 = .pointer (some ⟨bE, 0, none⟩) ∧ s6 = .pointer (some ⟨bO, 0, none⟩) ∧ Ho (Blk wy bE 24 [.slice (some ⟨b, f, none⟩) half c, .slice (some ⟨b', f, none⟩) half c']) ∧ Ho (Blk wy bO 24 [.slice (some ⟨b, f + half, none⟩) half (c - half), .slice (some ⟨b', f + half, none⟩) half (c' - half)]) ∧ Ho (Bel W wy) ∧ Ho (bE ≠ bO) ∧ Ho (W0.heap.size ≤ bE) ∧ Ho (W0.heap.size ≤ bO))
  case first =>
    refine wp_region_held_drew (S := fun w' => Bel W w') (by kernel_rfl) (Bel.refl _).drew (fun hHeld => ?_)
    (try dsimp only at hHeld)
    generalize W.drew = wx at *
    refine rl (i := 0) (v := ?_) hHeld (fun w hSw => ?_) ?_
    rotate_left
    · (have z0 := hSw.cell y0; have z1 := hSw.cell y1; go_simp; try (with_reducible rfl))
    refine rt (i := 1) hHeld ?_
    refine rl (i := 3) (v := ?_) hHeld (fun w hSw => ?_) ?_
    rotate_left
    · (have z0 := hSw.cell y0; have z1 := hSw.cell y1; go_simp; try (with_reducible rfl))
    refine rt (i := 4) hHeld ?_
    refine rt (i := 5) hHeld ?_
    refine rl (i := 6) (v := ?_) hHeld (fun w hSw => ?_) ?_
    rotate_left
    · (have z0 := hSw.cell y0; have z1 := hSw.cell y1; go_simp; try (with_reducible rfl))
    refine rt (i := 7) hHeld ?_
    try simp only [Act.put, List.setIfInBounds_toArray, List.set_cons_zero, List.set_cons_succ]
    refine I8.rc3 (i := 2) (j := 9) (k := 10) (fun K hK => ?_) (fun K hK => ?_) (fun K hK => ?_)
    go_simp
    go_at_call 105
    (with_reducible refine (PT1.out wx).mono ?_); rintro e wx ⟨rfl, bwx⟩
    try go_wp2_with fail
    refine hK.out _ _ (Bel.trans hHeld bwx) (fun hHeld => ?_)
    clear hK K
    clear bwx
    try simp only [Act.put, List.setIfInBounds_toArray, List.set_cons_zero, List.set_cons_succ]
    refine I8.rc3 (i := 8) (j := 9) (k := 10) (fun K hK => ?_) (fun K hK => ?_) (fun K hK => ?_)
    go_simp
    go_at_call 105
    (with_reducible refine (PT2.out wx).mono ?_); rintro e wx ⟨rfl, bwx⟩
    try go_wp2_with fail
    refine hK.out _ _ (Bel.trans hHeld bwx) (fun hHeld => ?_)
    clear hK K
    clear bwx
    try simp only [Act.put, List.setIfInBounds_toArray, List.set_cons_zero, List.set_cons_succ]
    refine I6.rc2 (i := 9) (j := 10) (fun K hK => ?_) (fun K hK => ?_)
    go_simp
    have le_bE := hHeld.size
    refine hK.out _ _ (Bel.alloc hHeld _) (fun hHeld => ?_)
    clear hK K
    have KE := Ho.mk (Blk.new wx [.slice none 0 0, .slice none 0 0] 24)
    have lt_bE : wx.heap.size < (World.alloc wx (.cells #[.slice none 0 0, .slice none 0 0] 24)).heap.size := by rw [World.size_alloc]; exact Nat.lt_succ_self _
    obtain ⟨bE, hp_bE⟩ : ∃ p, p = wx.heap.size := ⟨_, rfl⟩
    rw [← hp_bE] at KE le_bE lt_bE
    rw [← hp_bE]
    clear hp_bE
    generalize World.alloc wx (.cells #[.slice none 0 0, .slice none 0 0] 24) = wx at *
    try simp only [Act.put, List.setIfInBounds_toArray, List.set_cons_zero, List.set_cons_succ]
    refine rc (i := 10) (fun K hK => ?_)
    go_simp
    have le_bO := hHeld.size
    refine hK.out _ _ (Bel.alloc hHeld _) (fun hHeld => ?_)
    clear hK K
    have KO := Ho.mk (Blk.new wx [.slice none 0 0, .slice none 0 0] 24)
    have KE := Ho.mk (KE.out.bel ((Bel.refl wx).alloc (.cells #[.slice none 0 0, .slice none 0 0] 24)))
    have lt_bE := Nat.lt_of_lt_of_le lt_bE ((Bel.refl wx).alloc (.cells #[.slice none 0 0, .slice none 0 0] 24)).size
    have lt_bO : wx.heap.size < (World.alloc wx (.cells #[.slice none 0 0, .slice none 0 0] 24)).heap.size := by rw [World.size_alloc]; exact Nat.lt_succ_self _
    obtain ⟨bO, hp_bO⟩ : ∃ p, p = wx.heap.size := ⟨_, rfl⟩
    rw [← hp_bO] at KO le_bO lt_bO
    rw [← hp_bO]
    have gt_bE_bO : bE < bO := by omega
    have ne_bE_bO : bE ≠ bO := by omega
    have en_bE_bO : bO ≠ bE := by omega
    clear hp_bO
    generalize World.alloc wx (.cells #[.slice none 0 0, .slice none 0 0] 24) = wx at *
    rotate_left
    go_simp
    have le_bO := hHeld.size
    refine hK.out _ _ (Bel.alloc hHeld _) (fun hHeld => ?_)
    clear hK K
    have KO := Ho.mk (Blk.new wx [.slice none 0 0, .slice none 0 0] 24)
    have lt_bO : wx.heap.size < (World.alloc wx (.cells #[.slice none 0 0, .slice none 0 0] 24)).heap.size := by rw [World.size_alloc]; exact Nat.lt_succ_self _
    obtain ⟨bO, hp_bO⟩ : ∃ p, p = wx.heap.size := ⟨_, rfl⟩
    rw [← hp_bO] at KO le_bO lt_bO
    rw [← hp_bO]
    clear hp_bO
    generalize World.alloc wx (.cells #[.slice none 0 0, .slice none 0 0] 24) = wx at *
    try simp only [Act.put, List.setIfInBounds_toArray, List.set_cons_zero, List.set_cons_succ]
    refine rc (i := 9) (fun K hK => ?_)
    go_simp
    have le_bE := hHeld.size
    refine hK.out _ _ (Bel.alloc hHeld _) (fun hHeld => ?_)
    clear hK K
    have KE := Ho.mk (Blk.new wx [.slice none 0 0, .slice none 0 0] 24)
    have KO := Ho.mk (KO.out.bel ((Bel.refl wx).alloc (.cells #[.slice none 0 0, .slice none 0 0] 24)))
    have lt_bO := Nat.lt_of_lt_of_le lt_bO ((Bel.refl wx).alloc (.cells #[.slice none 0 0, .slice none 0 0] 24)).size
    have lt_bE : wx.heap.size < (World.alloc wx (.cells #[.slice none 0 0, .slice none 0 0] 24)).heap.size := by rw [World.size_alloc]; exact Nat.lt_succ_self _
    obtain ⟨bE, hp_bE⟩ : ∃ p, p = wx.heap.size := ⟨_, rfl⟩
    rw [← hp_bE] at KE le_bE lt_bE
    rw [← hp_bE]
    have gt_bO_bE : bO < bE := by omega
    have ne_bO_bE : bO ≠ bE := by omega
    have en_bO_bE : bE ≠ bO := by omega
    clear hp_bE
    generalize World.alloc wx (.cells #[.slice none 0 0, .slice none 0 0] 24) = wx at *
    rotate_left
    go_simp
    have le_bE := hHeld.size
    refine hK.out _ _ (Bel.alloc hHeld _) (fun hHeld => ?_)
    clear hK K
    have KE := Ho.mk (Blk.new wx [.slice none 0 0, .slice none 0 0] 24)
    have lt_bE : wx.heap.size < (World.alloc wx (.cells #[.slice none 0 0, .slice none 0 0] 24)).heap.size := by rw [World.size_alloc]; exact Nat.lt_succ_self _
    obtain ⟨bE, hp_bE⟩ : ∃ p, p = wx.heap.size := ⟨_, rfl⟩
    rw [← hp_bE] at KE le_bE lt_bE
    rw [← hp_bE]
    clear hp_bE
    generalize World.alloc wx (.cells #[.slice none 0 0, .slice none 0 0] 24) = wx at *
    try simp only [Act.put, List.setIfInBounds_toArray, List.set_cons_zero, List.set_cons_succ]
    refine I6.rc2 (i := 8) (j := 10) (fun K hK => ?_) (fun K hK => ?_)
    go_simp
    go_at_call 105
    (with_reducible refine (PT2.out wx).mono ?_); rintro e wx ⟨rfl, bwx⟩
    try go_wp2_with fail
    refine hK.out _ _ (Bel.trans hHeld bwx) (fun hHeld => ?_)
    clear hK K
    have KE := Ho.mk (KE.out.bel bwx)
    have lt_bE := Nat.lt_of_lt_of_le lt_bE bwx.size
    clear bwx
    try simp only [Act.put, List.setIfInBounds_toArray, List.set_cons_zero, List.set_cons_succ]
    refine rc (i := 10) (fun K hK => ?_)
    go_simp
    have le_bO := hHeld.size
    refine hK.out _ _ (Bel.alloc hHeld _) (fun hHeld => ?_)
    clear hK K
    have KO := Ho.mk (Blk.new wx [.slice none 0 0, .slice none 0 0] 24)
    have KE := Ho.mk (KE.out.bel ((Bel.refl wx).alloc (.cells #[.slice none 0 0, .slice none 0 0] 24)))
    have lt_bE := Nat.lt_of_lt_of_le lt_bE ((Bel.refl wx).alloc (.cells #[.slice none 0 0, .slice none 0 0] 24)).size
    have lt_bO : wx.heap.size < (World.alloc wx (.cells #[.slice none 0 0, .slice none 0 0] 24)).heap.size := by rw [World.size_alloc]; exact Nat.lt_succ_self _
    obtain ⟨bO, hp_bO⟩ : ∃ p, p = wx.heap.size := ⟨_, rfl⟩
    rw [← hp_bO] at KO le_bO lt_bO
    rw [← hp_bO]
    have gt_bE_bO : bE < bO := by omega
    have ne_bE_bO : bE ≠ bO := by omega
    have en_bE_bO : bO ≠ bE := by omega
    clear hp_bO
    generalize World.alloc wx (.cells #[.slice none 0 0, .slice none 0 0] 24) = wx at *
    rotate_left
    go_simp
    have le_bO := hHeld.size
    refine hK.out _ _ (Bel.alloc hHeld _) (fun hHeld => ?_)
    clear hK K
    have KO := Ho.mk (Blk.new wx [.slice none 0 0, .slice none 0 0] 24)
    have KE := Ho.mk (KE.out.bel ((Bel.refl wx).alloc (.cells #[.slice none 0 0, .slice none 0 0] 24)))
    have lt_bE := Nat.lt_of_lt_of_le lt_bE ((Bel.refl wx).alloc (.cells #[.slice none 0 0, .slice none 0 0] 24)).size
    have lt_bO : wx.heap.size < (World.alloc wx (.cells #[.slice none 0 0, .slice none 0 0] 24)).heap.size := by rw [World.size_alloc]; exact Nat.lt_succ_self _
    obtain ⟨bO, hp_bO⟩ : ∃ p, p = wx.heap.size := ⟨_, rfl⟩
    rw [← hp_bO] at KO le_bO lt_bO
    rw [← hp_bO]
    have gt_bE_bO : bE < bO := by omega
    have ne_bE_bO : bE ≠ bO := by omega
    have en_bE_bO : bO ≠ bE := by omega
    clear hp_bO
    generalize World.alloc wx (.cells #[.slice none 0 0, .slice none 0 0] 24) = wx at *
    try simp only [Act.put, List.setIfInBounds_toArray, List.set_cons_zero, List.set_cons_succ]
    refine rc (i := 8) (fun K hK => ?_)
    go_simp
    go_at_call 105
    (with_reducible refine (PT2.out wx).mono ?_); rintro e wx ⟨rfl, bwx⟩
    try go_wp2_with fail
    refine hK.out _ _ (Bel.trans hHeld bwx) (fun hHeld => ?_)
    clear hK K
    have KE := Ho.mk (KE.out.bel bwx)
    have KO := Ho.mk (KO.out.bel bwx)
    have lt_bE := Nat.lt_of_lt_of_le lt_bE bwx.size
    have lt_bO := Nat.lt_of_lt_of_le lt_bO bwx.size
    clear bwx
    rotate_left
    go_simp
    have le_bO := hHeld.size
    refine hK.out _ _ (Bel.alloc hHeld _) (fun hHeld => ?_)
    clear hK K
    have KO := Ho.mk (Blk.new wx [.slice none 0 0, .slice none 0 0] 24)
    have lt_bO : wx.heap.size < (World.alloc wx (.cells #[.slice none 0 0, .slice none 0 0] 24)).heap.size := by rw [World.size_alloc]; exact Nat.lt_succ_self _
    obtain ⟨bO, hp_bO⟩ : ∃ p, p = wx.heap.size := ⟨_, rfl⟩
    rw [← hp_bO] at KO le_bO lt_bO
    rw [← hp_bO]
    clear hp_bO
    generalize World.alloc wx (.cells #[.slice none 0 0, .slice none 0 0] 24) = wx at *
    try simp only [Act.put, List.setIfInBounds_toArray, List.set_cons_zero, List.set_cons_succ]
    refine I6.rc2 (i := 8) (j := 9) (fun K hK => ?_) (fun K hK => ?_)
    go_simp
    go_at_call 105
    (with_reducible refine (PT2.out wx).mono ?_); rintro e wx ⟨rfl, bwx⟩
    try go_wp2_with fail
    refine hK.out _ _ (Bel.trans hHeld bwx) (fun hHeld => ?_)
    clear hK K
    have KO := Ho.mk (KO.out.bel bwx)
    have lt_bO := Nat.lt_of_lt_of_le lt_bO bwx.size
    clear bwx
    try simp only [Act.put, List.setIfInBounds_toArray, List.set_cons_zero, List.set_cons_succ]
    refine rc (i := 9) (fun K hK => ?_)
    go_simp
    have le_bE := hHeld.size
    refine hK.out _ _ (Bel.alloc hHeld _) (fun hHeld => ?_)
    clear hK K
    have KE := Ho.mk (Blk.new wx [.slice none 0 0, .slice none 0 0] 24)
    have KO := Ho.mk (KO.out.bel ((Bel.refl wx).alloc (.cells #[.slice none 0 0, .slice none 0 0] 24)))
    have lt_bO := Nat.lt_of_lt_of_le lt_bO ((Bel.refl wx).alloc (.cells #[.slice none 0 0, .slice none 0 0] 24)).size
    have lt_bE : wx.heap.size < (World.alloc wx (.cells #[.slice none 0 0, .slice none 0 0] 24)).heap.size := by rw [World.size_alloc]; exact Nat.lt_succ_self _
    obtain ⟨bE, hp_bE⟩ : ∃ p, p = wx.heap.size := ⟨_, rfl⟩
    rw [← hp_bE] at KE le_bE lt_bE
    rw [← hp_bE]
    have gt_bO_bE : bO < bE := by omega
    have ne_bO_bE : bO ≠ bE := by omega
    have en_bO_bE : bE ≠ bO := by omega
    clear hp_bE
    generalize World.alloc wx (.cells #[.slice none 0 0, .slice none 0 0] 24) = wx at *
    rotate_left
    go_simp
    have le_bE := hHeld.size
    refine hK.out _ _ (Bel.alloc hHeld _) (fun hHeld => ?_)
    clear hK K
    have KE := Ho.mk (Blk.new wx [.slice none 0 0, .slice none 0 0] 24)
    have KO := Ho.mk (KO.out.bel ((Bel.refl wx).alloc (.cells #[.slice none 0 0, .slice none 0 0] 24)))
    have lt_bO := Nat.lt_of_lt_of_le lt_bO ((Bel.refl wx).alloc (.cells #[.slice none 0 0, .slice none 0 0] 24)).size
    have lt_bE : wx.heap.size < (World.alloc wx (.cells #[.slice none 0 0, .slice none 0 0] 24)).heap.size := by rw [World.size_alloc]; exact Nat.lt_succ_self _
    obtain ⟨bE, hp_bE⟩ : ∃ p, p = wx.heap.size := ⟨_, rfl⟩
    rw [← hp_bE] at KE le_bE lt_bE
    rw [← hp_bE]
    have gt_bO_bE : bO < bE := by omega
    have ne_bO_bE : bO ≠ bE := by omega
    have en_bO_bE : bE ≠ bO := by omega
    clear hp_bE
    generalize World.alloc wx (.cells #[.slice none 0 0, .slice none 0 0] 24) = wx at *
    try simp only [Act.put, List.setIfInBounds_toArray, List.set_cons_zero, List.set_cons_succ]
    refine rc (i := 8) (fun K hK => ?_)
    go_simp
    go_at_call 105
    (with_reducible refine (PT2.out wx).mono ?_); rintro e wx ⟨rfl, bwx⟩
    try go_wp2_with fail
    refine hK.out _ _ (Bel.trans hHeld bwx) (fun hHeld => ?_)
    clear hK K
    have KO := Ho.mk (KO.out.bel bwx)
    have KE := Ho.mk (KE.out.bel bwx)
    have lt_bO := Nat.lt_of_lt_of_le lt_bO bwx.size
    have lt_bE := Nat.lt_of_lt_of_le lt_bE bwx.size
    clear bwx
    rotate_left
    go_simp
    have le_bE := hHeld.size
    refine hK.out _ _ (Bel.alloc hHeld _) (fun hHeld => ?_)
    clear hK K
    have KE := Ho.mk (Blk.new wx [.slice none 0 0, .slice none 0 0] 24)
    have lt_bE : wx.heap.size < (World.alloc wx (.cells #[.slice none 0 0, .slice none 0 0] 24)).heap.size := by rw [World.size_alloc]; exact Nat.lt_succ_self _
    obtain ⟨bE, hp_bE⟩ : ∃ p, p = wx.heap.size := ⟨_, rfl⟩
    rw [← hp_bE] at KE le_bE lt_bE
    rw [← hp_bE]
    clear hp_bE
    generalize World.alloc wx (.cells #[.slice none 0 0, .slice none 0 0] 24) = wx at *
    try simp only [Act.put, List.setIfInBounds_toArray, List.set_cons_zero, List.set_cons_succ]
    refine I6.rc2 (i := 2) (j := 10) (fun K hK => ?_) (fun K hK => ?_)
    go_simp
    go_at_call 105
    (with_reducible refine (PT1.out wx).mono ?_); rintro e wx ⟨rfl, bwx⟩
    try go_wp2_with fail
    refine hK.out _ _ (Bel.trans hHeld bwx) (fun hHeld => ?_)
    clear hK K
    have KE := Ho.mk (KE.out.bel bwx)
    have lt_bE := Nat.lt_of_lt_of_le lt_bE bwx.size
    clear bwx
    try simp only [Act.put, List.setIfInBounds_toArray, List.set_cons_zero, List.set_cons_succ]
    refine I6.rc2 (i := 8) (j := 10) (fun K hK => ?_) (fun K hK => ?_)
    go_simp
    go_at_call 105
    (with_reducible refine (PT2.out wx).mono ?_); rintro e wx ⟨rfl, bwx⟩
    try go_wp2_with fail
    refine hK.out _ _ (Bel.trans hHeld bwx) (fun hHeld => ?_)
    clear hK K
    have KE := Ho.mk (KE.out.bel bwx)
    have lt_bE := Nat.lt_of_lt_of_le lt_bE bwx.size
    clear bwx
    try simp only [Act.put, List.setIfInBounds_toArray, List.set_cons_zero, List.set_cons_succ]
    refine rc (i := 10) (fun K hK => ?_)
    go_simp
    have le_bO := hHeld.size
    refine hK.out _ _ (Bel.alloc hHeld _) (fun hHeld => ?_)
    clear hK K
    have KO := Ho.mk (Blk.new wx [.slice none 0 0, .slice none 0 0] 24)
    have KE := Ho.mk (KE.out.bel ((Bel.refl wx).alloc (.cells #[.slice none 0 0, .slice none 0 0] 24)))
    have lt_bE := Nat.lt_of_lt_of_le lt_bE ((Bel.refl wx).alloc (.cells #[.slice none 0 0, .slice none 0 0] 24)).size
    have lt_bO : wx.heap.size < (World.alloc wx (.cells #[.slice none 0 0, .slice none 0 0] 24)).heap.size := by rw [World.size_alloc]; exact Nat.lt_succ_self _
    obtain ⟨bO, hp_bO⟩ : ∃ p, p = wx.heap.size := ⟨_, rfl⟩
    rw [← hp_bO] at KO le_bO lt_bO
    rw [← hp_bO]
    have gt_bE_bO : bE < bO := by omega
    have ne_bE_bO : bE ≠ bO := by omega
    have en_bE_bO : bO ≠ bE := by omega
    clear hp_bO
    generalize World.alloc wx (.cells #[.slice none 0 0, .slice none 0 0] 24) = wx at *
    rotate_left
    go_simp
    have le_bO := hHeld.size
    refine hK.out _ _ (Bel.alloc hHeld _) (fun hHeld => ?_)
    clear hK K
    have KO := Ho.mk (Blk.new wx [.slice none 0 0, .slice none 0 0] 24)
    have KE := Ho.mk (KE.out.bel ((Bel.refl wx).alloc (.cells #[.slice none 0 0, .slice none 0 0] 24)))
    have lt_bE := Nat.lt_of_lt_of_le lt_bE ((Bel.refl wx).alloc (.cells #[.slice none 0 0, .slice none 0 0] 24)).size
    have lt_bO : wx.heap.size < (World.alloc wx (.cells #[.slice none 0 0, .slice none 0 0] 24)).heap.size := by rw [World.size_alloc]; exact Nat.lt_succ_self _
    obtain ⟨bO, hp_bO⟩ : ∃ p, p = wx.heap.size := ⟨_, rfl⟩
    rw [← hp_bO] at KO le_bO lt_bO
    rw [← hp_bO]
    have gt_bE_bO : bE < bO := by omega
    have ne_bE_bO : bE ≠ bO := by omega
    have en_bE_bO : bO ≠ bE := by omega
    clear hp_bO
    generalize World.alloc wx (.cells #[.slice none 0 0, .slice none 0 0] 24) = wx at *
    try simp only [Act.put, List.setIfInBounds_toArray, List.set_cons_zero, List.set_cons_succ]
    refine rc (i := 8) (fun K hK => ?_)
    go_simp
    go_at_call 105
    (with_reducible refine (PT2.out wx).mono ?_); rintro e wx ⟨rfl, bwx⟩
    try go_wp2_with fail
    refine hK.out _ _ (Bel.trans hHeld bwx) (fun hHeld => ?_)
    clear hK K
    have KE := Ho.mk (KE.out.bel bwx)
    have KO := Ho.mk (KO.out.bel bwx)
    have lt_bE := Nat.lt_of_lt_of_le lt_bE bwx.size
    have lt_bO := Nat.lt_of_lt_of_le lt_bO bwx.size
    clear bwx
    rotate_left
    go_simp
    have le_bO := hHeld.size
    refine hK.out _ _ (Bel.alloc hHeld _) (fun hHeld => ?_)
    clear hK K
    have KO := Ho.mk (Blk.new wx [.slice none 0 0, .slice none 0 0] 24)
    have KE := Ho.mk (KE.out.bel ((Bel.refl wx).alloc (.cells #[.slice none 0 0, .slice none 0 0] 24)))
    have lt_bE := Nat.lt_of_lt_of_le lt_bE ((Bel.refl wx).alloc (.cells #[.slice none 0 0, .slice none 0 0] 24)).size
    have lt_bO : wx.heap.size < (World.alloc wx (.cells #[.slice none 0 0, .slice none 0 0] 24)).heap.size := by rw [World.size_alloc]; exact Nat.lt_succ_self _
    obtain ⟨bO, hp_bO⟩ : ∃ p, p = wx.heap.size := ⟨_, rfl⟩
    rw [← hp_bO] at KO le_bO lt_bO
    rw [← hp_bO]
    have gt_bE_bO : bE < bO := by omega
    have ne_bE_bO : bE ≠ bO := by omega
    have en_bE_bO : bO ≠ bE := by omega
    clear hp_bO
    generalize World.alloc wx (.cells #[.slice none 0 0, .slice none 0 0] 24) = wx at *
    try simp only [Act.put, List.setIfInBounds_toArray, List.set_cons_zero, List.set_cons_succ]
    refine rc (i := 2) (fun K hK => ?_)
    go_simp
    go_at_call 105
    (with_reducible refine (PT1.out wx).mono ?_); rintro e wx ⟨rfl, bwx⟩
    try go_wp2_with fail
    refine hK.out _ _ (Bel.trans hHeld bwx) (fun hHeld => ?_)
    clear hK K
    have KE := Ho.mk (KE.out.bel bwx)
    have KO := Ho.mk (KO.out.bel bwx)
    have lt_bE := Nat.lt_of_lt_of_le lt_bE bwx.size
    have lt_bO := Nat.lt_of_lt_of_le lt_bO bwx.size
    clear bwx
    try simp only [Act.put, List.setIfInBounds_toArray, List.set_cons_zero, List.set_cons_succ]
    refine rc (i := 8) (fun K hK => ?_)
    go_simp
    go_at_call 105
    (with_reducible refine (PT2.out wx).mono ?_); rintro e wx ⟨rfl, bwx⟩
    try go_wp2_with fail
    refine hK.out _ _ (Bel.trans hHeld bwx) (fun hHeld => ?_)
    clear hK K
    have KE := Ho.mk (KE.out.bel bwx)
    have KO := Ho.mk (KO.out.bel bwx)
    have lt_bE := Nat.lt_of_lt_of_le lt_bE bwx.size
    have lt_bO := Nat.lt_of_lt_of_le lt_bO bwx.size
    clear bwx
    rotate_left
    go_simp
    have le_bO := hHeld.size
    refine hK.out _ _ (Bel.alloc hHeld _) (fun hHeld => ?_)
    clear hK K
    have KO := Ho.mk (Blk.new wx [.slice none 0 0, .slice none 0 0] 24)
    have lt_bO : wx.heap.size < (World.alloc wx (.cells #[.slice none 0 0, .slice none 0 0] 24)).heap.size := by rw [World.size_alloc]; exact Nat.lt_succ_self _
    obtain ⟨bO, hp_bO⟩ : ∃ p, p = wx.heap.size := ⟨_, rfl⟩
    rw [← hp_bO] at KO le_bO lt_bO
    rw [← hp_bO]
    clear hp_bO
    generalize World.alloc wx (.cells #[.slice none 0 0, .slice none 0 0] 24) = wx at *
    try simp only [Act.put, List.setIfInBounds_toArray, List.set_cons_zero, List.set_cons_succ]
    refine I6.rc2 (i := 2) (j := 9) (fun K hK => ?_) (fun K hK => ?_)
    go_simp
    go_at_call 105
    (with_reducible refine (PT1.out wx).mono ?_); rintro e wx ⟨rfl, bwx⟩
    try go_wp2_with fail
    refine hK.out _ _ (Bel.trans hHeld bwx) (fun hHeld => ?_)
    clear hK K
    have KO := Ho.mk (KO.out.bel bwx)
    have lt_bO := Nat.lt_of_lt_of_le lt_bO bwx.size
    clear bwx
    try simp only [Act.put, List.setIfInBounds_toArray, List.set_cons_zero, List.set_cons_succ]
    refine I6.rc2 (i := 8) (j := 9) (fun K hK => ?_) (fun K hK => ?_)
    go_simp
    go_at_call 105
    (with_reducible refine (PT2.out wx).mono ?_); rintro e wx ⟨rfl, bwx⟩
    try go_wp2_with fail
    refine hK.out _ _ (Bel.trans hHeld bwx) (fun hHeld => ?_)
    clear hK K
    have KO := Ho.mk (KO.out.bel bwx)
    have lt_bO := Nat.lt_of_lt_of_le lt_bO bwx.size
    clear bwx
    try simp only [Act.put, List.setIfInBounds_toArray, List.set_cons_zero, List.set_cons_succ]
    refine rc (i := 9) (fun K hK => ?_)
    go_simp
    have le_bE := hHeld.size
    refine hK.out _ _ (Bel.alloc hHeld _) (fun hHeld => ?_)
    clear hK K
    have KE := Ho.mk (Blk.new wx [.slice none 0 0, .slice none 0 0] 24)
    have KO := Ho.mk (KO.out.bel ((Bel.refl wx).alloc (.cells #[.slice none 0 0, .slice none 0 0] 24)))
    have lt_bO := Nat.lt_of_lt_of_le lt_bO ((Bel.refl wx).alloc (.cells #[.slice none 0 0, .slice none 0 0] 24)).size
    have lt_bE : wx.heap.size < (World.alloc wx (.cells #[.slice none 0 0, .slice none 0 0] 24)).heap.size := by rw [World.size_alloc]; exact Nat.lt_succ_self _
    obtain ⟨bE, hp_bE⟩ : ∃ p, p = wx.heap.size := ⟨_, rfl⟩
    rw [← hp_bE] at KE le_bE lt_bE
    rw [← hp_bE]
    have gt_bO_bE : bO < bE := by omega
    have ne_bO_bE : bO ≠ bE := by omega
    have en_bO_bE : bE ≠ bO := by omega
    clear hp_bE
    generalize World.alloc wx (.cells #[.slice none 0 0, .slice none 0 0] 24) = wx at *
    rotate_left
    go_simp
    have le_bE := hHeld.size
    refine hK.out _ _ (Bel.alloc hHeld _) (fun hHeld => ?_)
    clear hK K
    have KE := Ho.mk (Blk.new wx [.slice none 0 0, .slice none 0 0] 24)
    have KO := Ho.mk (KO.out.bel ((Bel.refl wx).alloc (.cells #[.slice none 0 0, .slice none 0 0] 24)))
    have lt_bO := Nat.lt_of_lt_of_le lt_bO ((Bel.refl wx).alloc (.cells #[.slice none 0 0, .slice none 0 0] 24)).size
    have lt_bE : wx.heap.size < (World.alloc wx (.cells #[.slice none 0 0, .slice none 0 0] 24)).heap.size := by rw [World.size_alloc]; exact Nat.lt_succ_self _
    obtain ⟨bE, hp_bE⟩ : ∃ p, p = wx.heap.size := ⟨_, rfl⟩
    rw [← hp_bE] at KE le_bE lt_bE
    rw [← hp_bE]
    have gt_bO_bE : bO < bE := by omega
    have ne_bO_bE : bO ≠ bE := by omega
    have en_bO_bE : bE ≠ bO := by omega
    clear hp_bE
    generalize World.alloc wx (.cells #[.slice none 0 0, .slice none 0 0] 24) = wx at *
    try simp only [Act.put, List.setIfInBounds_toArray, List.set_cons_zero, List.set_cons_succ]
    refine rc (i := 8) (fun K hK => ?_)
    go_simp
    go_at_call 105
    (with_reducible refine (PT2.out wx).mono ?_); rintro e wx ⟨rfl, bwx⟩
    try go_wp2_with fail
    refine hK.out _ _ (Bel.trans hHeld bwx) (fun hHeld => ?_)
    clear hK K
    have KO := Ho.mk (KO.out.bel bwx)
    have KE := Ho.mk (KE.out.bel bwx)
    have lt_bO := Nat.lt_of_lt_of_le lt_bO bwx.size
    have lt_bE := Nat.lt_of_lt_of_le lt_bE bwx.size
    clear bwx
    rotate_left
    go_simp
    have le_bE := hHeld.size
    refine hK.out _ _ (Bel.alloc hHeld _) (fun hHeld => ?_)
    clear hK K
    have KE := Ho.mk (Blk.new wx [.slice none 0 0, .slice none 0 0] 24)
    have KO := Ho.mk (KO.out.bel ((Bel.refl wx).alloc (.cells #[.slice none 0 0, .slice none 0 0] 24)))
    have lt_bO := Nat.lt_of_lt_of_le lt_bO ((Bel.refl wx).alloc (.cells #[.slice none 0 0, .slice none 0 0] 24)).size
    have lt_bE : wx.heap.size < (World.alloc wx (.cells #[.slice none 0 0, .slice none 0 0] 24)).heap.size := by rw [World.size_alloc]; exact Nat.lt_succ_self _
    obtain ⟨bE, hp_bE⟩ : ∃ p, p = wx.heap.size := ⟨_, rfl⟩
    rw [← hp_bE] at KE le_bE lt_bE
    rw [← hp_bE]
    have gt_bO_bE : bO < bE := by omega
    have ne_bO_bE : bO ≠ bE := by omega
    have en_bO_bE : bE ≠ bO := by omega
    clear hp_bE
    generalize World.alloc wx (.cells #[.slice none 0 0, .slice none 0 0] 24) = wx at *
    try simp only [Act.put, List.setIfInBounds_toArray, List.set_cons_zero, List.set_cons_succ]
    refine rc (i := 2) (fun K hK => ?_)
    go_simp
    go_at_call 105
    (with_reducible refine (PT1.out wx).mono ?_); rintro e wx ⟨rfl, bwx⟩
    try go_wp2_with fail
    refine hK.out _ _ (Bel.trans hHeld bwx) (fun hHeld => ?_)
    clear hK K
    have KO := Ho.mk (KO.out.bel bwx)
    have KE := Ho.mk (KE.out.bel bwx)
    have lt_bO := Nat.lt_of_lt_of_le lt_bO bwx.size
    have lt_bE := Nat.lt_of_lt_of_le lt_bE bwx.size
    clear bwx
    try simp only [Act.put, List.setIfInBounds_toArray, List.set_cons_zero, List.set_cons_succ]
    refine rc (i := 8) (fun K hK => ?_)
    go_simp
    go_at_call 105
    (with_reducible refine (PT2.out wx).mono ?_); rintro e wx ⟨rfl, bwx⟩
    try go_wp2_with fail
    refine hK.out _ _ (Bel.trans hHeld bwx) (fun hHeld => ?_)
    clear hK K
    have KO := Ho.mk (KO.out.bel bwx)
    have KE := Ho.mk (KE.out.bel bwx)
    have lt_bO := Nat.lt_of_lt_of_le lt_bO bwx.size
    have lt_bE := Nat.lt_of_lt_of_le lt_bE bwx.size
    clear bwx
    rotate_left
    all_goals
      try simp only [Act.put, List.setIfInBounds_toArray, List.set_cons_zero, List.set_cons_succ]
      have y0 := KE.out.cell (i := 0) rfl
      have y1 := KE.out.cell (i := 1) rfl
      have x0 := KE.out.free 0
      have x1 := KE.out.free 1
      refine rc (i := 11) (fun K hK => ?_)
      go_simp
      have KO := Ho.mk ((KO.out.far (p := ⟨bE, 0, none⟩) (by dsimp only; omega) (.slice (some ⟨b, f, none⟩) half c)).far (p := ⟨bE, 1, none⟩) (by dsimp only; omega) (.slice (some ⟨b', f, none⟩) half c'))
      have KE := Ho.mk ((KE.out.set 0 (.slice (some ⟨b, f, none⟩) half c)).set 1 (.slice (some ⟨b', f, none⟩) half c'))
      simp only [List.set_cons_zero, List.set_cons_succ] at KE
      refine hK.out _ _ ⟨((hHeld.out.setCell (p := ⟨bE, 0, none⟩) (by dsimp only; omega) (.slice (some ⟨b, f, none⟩) half c)).setCell (p := ⟨bE, 1, none⟩) (by dsimp only; omega) (.slice (some ⟨b', f, none⟩) half c'))⟩ (fun hHeld => ?_)
      clear hK K y0 x0 y1 x1
      have lt_bE : bE < (World.setCell (World.setCell wx ⟨bE, 0, none⟩ (.slice (some ⟨b, f, none⟩) half c)) ⟨bE, 1, none⟩ (.slice (some ⟨b', f, none⟩) half c')).heap.size := by simpa [World.setCell] using lt_bE
      have lt_bO : bO < (World.setCell (World.setCell wx ⟨bE, 0, none⟩ (.slice (some ⟨b, f, none⟩) half c)) ⟨bE, 1, none⟩ (.slice (some ⟨b', f, none⟩) half c')).heap.size := by simpa [World.setCell] using lt_bO
      generalize World.setCell (World.setCell wx ⟨bE, 0, none⟩ (.slice (some ⟨b, f, none⟩) half c)) ⟨bE, 1, none⟩ (.slice (some ⟨b', f, none⟩) half c') = wx at *
      try simp only [Act.put, List.setIfInBounds_toArray, List.set_cons_zero, List.set_cons_succ]
      have y0 := KO.out.cell (i := 0) rfl
      have y1 := KO.out.cell (i := 1) rfl
      have x0 := KO.out.free 0
      have x1 := KO.out.free 1
      refine rc (i := 12) (fun K hK => ?_)
      go_simp
      have KE := Ho.mk ((KE.out.far (p := ⟨bO, 0, none⟩) (by dsimp only; omega) (.slice (some ⟨b, f + half, none⟩) half (c - half))).far (p := ⟨bO, 1, none⟩) (by dsimp only; omega) (.slice (some ⟨b', f + half, none⟩) half (c' - half)))
      have KO := Ho.mk ((KO.out.set 0 (.slice (some ⟨b, f + half, none⟩) half (c - half))).set 1 (.slice (some ⟨b', f + half, none⟩) half (c' - half)))
      simp only [List.set_cons_zero, List.set_cons_succ] at KO
      refine hK.out _ _ ⟨((hHeld.out.setCell (p := ⟨bO, 0, none⟩) (by dsimp only; omega) (.slice (some ⟨b, f + half, none⟩) half (c - half))).setCell (p := ⟨bO, 1, none⟩) (by dsimp only; omega) (.slice (some ⟨b', f + half, none⟩) half (c' - half)))⟩ (fun hHeld => ?_)
      clear hK K y0 x0 y1 x1
      have lt_bE : bE < (World.setCell (World.setCell wx ⟨bO, 0, none⟩ (.slice (some ⟨b, f + half, none⟩) half (c - half))) ⟨bO, 1, none⟩ (.slice (some ⟨b', f + half, none⟩) half (c' - half))).heap.size := by simpa [World.setCell] using lt_bE
      have lt_bO : bO < (World.setCell (World.setCell wx ⟨bO, 0, none⟩ (.slice (some ⟨b, f + half, none⟩) half (c - half))) ⟨bO, 1, none⟩ (.slice (some ⟨b', f + half, none⟩) half (c' - half))).heap.size := by simpa [World.setCell] using lt_bO
      generalize World.setCell (World.setCell wx ⟨bO, 0, none⟩ (.slice (some ⟨b, f + half, none⟩) half (c - half))) ⟨bO, 1, none⟩ (.slice (some ⟨b', f + half, none⟩) half (c' - half)) = wx at *
      try simp only [Act.put, List.setIfInBounds_toArray, List.set_cons_zero, List.set_cons_succ]
      refine wpAnyH_done (by kernel_rfl) ?_ _
      go_wp2_with fail
      go_meet
      exact ⟨bE, bO, rfl, rfl, KE, KO, ⟨hHeld⟩, ⟨by first | exact ne_bE_bO | exact en_bO_bE⟩, ⟨by omega⟩, ⟨by omega⟩⟩
  case rest =>
    obtain ⟨bE, bO, rfl, rfl, KE, KO, HB, HNE, LE, LO⟩ := hcut
    obtain ⟨wo, rfl⟩ : ∃ wo : World, wo = wc := ⟨_, rfl⟩
    have n1 : bE ≠ b := by have := LE.out; omega
    have n2 : bE ≠ b' := by have := LE.out; omega
    have n3 : bO ≠ b := by have := LO.out; omega
    have n4 : bO ≠ b' := by have := LO.out; omega
    have G0 := Ho.mk (g0.out.trans HB.out)
    have NE := Ho.mk (And.intro (And.intro n1 n2) (And.intro n3 n4))
    clear y0 y1 KV HB g0 PT1 PT2 n1 n2 n3 n4 HNE LE LO lb lb' hs
    go_wp2_with fail
    go_loopw [28] (fun v wr => ∃ (i : Nat), i ≤ half ∧ v = .int .i64 i ∧ Ho (Fz wr b (mergeS f half tw (X, Y) i).1) ∧ Ho (Fz wr b' (mergeS f half tw (X, Y) i).2) ∧ Ho (Gr2 b b' wo wr)) (fun v _ => half - (intOf v).toNat)
    case atStart => exact ⟨0, Nat.zero_le _, rfl, ⟨K1.out.bel G0.out⟩, ⟨K2.out.bel G0.out⟩, ⟨Gr2.refl _ _ _⟩⟩
    case round =>
      obtain ⟨i, hi, rfl, FX, FY, HG⟩ := hrel
      rcases Nat.lt_or_ge i half with hlt | hge
      · have HL := Ho.mk (mergeS_len f half tw (X, Y) i)
        obtain ⟨st, hst⟩ : ∃ st, st = mergeS f half tw (X, Y) i := ⟨_, rfl⟩
        have HST := Ho.mk hst
        rw [← hst] at FX FY HL
        clear hst
        have hL1 : Ho (st.1.length = N) := ⟨HL.out.1.trans HX.out⟩
        have hL2 : Ho (st.2.length = N) := ⟨HL.out.2.trans HY.out⟩
        have KE1 := Ho.mk (HG.out.blk KE.out NE.out.1.1 NE.out.1.2)
        have KO1 := Ho.mk (HG.out.blk KO.out NE.out.2.1 NE.out.2.2)
        have e0 := KE1.out.cell (i := 0) rfl
        have e1 := KE1.out.cell (i := 1) rfl
        have o0 := KO1.out.cell (i := 0) rfl
        have o1 := KO1.out.cell (i := 1) rfl
        obtain ⟨r1, y1, r1l, r1c⟩ := FX.out.at_ (i := f + half + i) (by rw [hL1.out]; omega)
        obtain ⟨r2, y2, r2l, r2c⟩ := FY.out.at_ (i := f + half + i) (by rw [hL2.out]; omega)
        obtain ⟨r3, y3, r3l, r3c⟩ := FX.out.at_ (i := f + i) (by rw [hL1.out]; omega)
        obtain ⟨r4, y4, r4l, r4c⟩ := FY.out.at_ (i := f + i) (by rw [hL2.out]; omega)
        have H12 := Ho.mk (And.intro (And.intro r1l r1c) (And.intro r2l r2c))
        have H34 := Ho.mk (And.intro (And.intro r3l r3c) (And.intro r4l r4c))
        clear r1l r1c r2l r2c r3l r3c r4l r4c
        go_upto_region 6 with fail
        go_region
        go_upto_if 42 with fail
        go_cut [8, 9, 10, 11] from 42 to 56 (fun s8 s9 s10 s11 wy => ∃ (r s : Nat), s8 = .float .f64 r ∧ s9 = .float .f64 s ∧ Ho (r < 2 * sgnW ∧ s < 2 * sgnW) ∧ Ho (cn r = (tw1 opsN tw i (nthN st.1 (f + half + i)) (nthN st.2 (f + half + i))).1 ∧ cn s = (tw1 opsN tw i (nthN st.1 (f + half + i)) (nthN st.2 (f + half + i))).2) ∧ Ho (Bel wr wy))
        case first =>
          by_cases hi0 : i = 0
          · subst hi0
            go_wp2_with fail
            go_meet
            exact ⟨r1, r2, rfl, rfl, ⟨H12.out.1.1, H12.out.2.1⟩, ⟨by rw [tw1, if_pos rfl]; exact H12.out.1.2, by rw [tw1, if_pos rfl]; exact H12.out.2.2⟩, ⟨(Bel.refl _).drew⟩⟩
          · have hi1 : 0 < i := Nat.pos_of_ne_zero hi0
            have AI := Ho.mk (fun w (g : Bel wr w) => A0.out i hi1 hlt w ((gr2_bel G0.out b b').trans (HG.out.tb g)))
            go_wp2_with (go_at_call 103; (with_reducible refine (AI.out _ (Bel.refl _).drew).mono ?_); rintro e w7 ⟨r7, s7, rfl, l7, c7, b7⟩; have H7 := Ho.mk (And.intro l7 c7); clear l7 c7)
            have TU := Ho.mk (fun w => P2.dCTurn w H12.out.1.1 H12.out.2.1 H7.out.1.1 H7.out.1.2)
            go_wp2_with (go_at_call 86; (with_reducible refine (TU.out _).mono ?_); rintro e w8 ⟨r8, s8, rfl, l8, c8, b8⟩; have H8 := Ho.mk (And.intro l8 c8); clear l8 c8)
            go_meet
            exact ⟨r8, s8, rfl, rfl, ⟨H8.out.1.1, H8.out.1.2⟩, ⟨by rw [tw1, if_neg hi0, H8.out.2.1, H12.out.1.2, H12.out.2.2, H7.out.2.1, H7.out.2.2]; rfl, by rw [tw1, if_neg hi0, H8.out.2.2, H12.out.1.2, H12.out.2.2, H7.out.2.1, H7.out.2.2]; rfl⟩, ⟨((Bel.refl _).drew.trans b7).trans b8⟩⟩
        case rest =>
          obtain ⟨r, s, rfl, rfl, HR, HC, HB⟩ := hcut
          have KE2 := Ho.mk ((KE1.out.bel HB.out).bel (Bel.refl _).drew)
          have KO2 := Ho.mk ((KO1.out.bel HB.out).bel (Bel.refl _).drew)
          have FX := Ho.mk ((FX.out.bel HB.out).bel (Bel.refl _).drew)
          have FY := Ho.mk ((FY.out.bel HB.out).bel (Bel.refl _).drew)
          have GR := Ho.mk ((HG.out.tb HB.out).drew)
          have LX := hL1
          have LY := hL2
          have AD := Ho.mk (fun w => P2.dCAdd w H34.out.1.1 H34.out.2.1 HR.out.1 HR.out.2)
          have SU := Ho.mk (fun w => P2.dCSub w H34.out.1.1 H34.out.2.1 HR.out.1 HR.out.2)
          have e0 := HB.out.cell e0
          have e1 := HB.out.cell e1
          have y3 := HB.out.cell y3
          have y4 := HB.out.cell y4
          clear o0 o1 y1 y2 KE1 KO1 HB HG hL1 hL2
          go_upto_region 10 with fail
          go_region
          go_upto_region 11 with fail
          clear e0 e1 y3 y4
          generalize wc.drew = wz at *
          refine wp_region_held_drew (S := fun w' => Blk w' bE 24 [.slice (some ⟨b, f, none⟩) half c, .slice (some ⟨b', f, none⟩) half c']) (by kernel_rfl) (KE2.out.bel (Bel.refl _).drew) (fun hHeld => ?_)
          (try dsimp only at hHeld)
          refine rt (i := 0) hHeld ?_
          refine rl (i := 1) (v := ?_) hHeld (fun w hSw => ?_) ?_
          rotate_left
          · (have z0 := hSw.cell (i := 0) rfl; have z1 := hSw.cell (i := 1) rfl; go_simp; try (with_reducible rfl))
          refine rt (i := 2) hHeld ?_
          refine rt (i := 3) hHeld ?_
          refine rl (i := 4) (v := ?_) hHeld (fun w hSw => ?_) ?_
          rotate_left
          · (have z0 := hSw.cell (i := 0) rfl; have z1 := hSw.cell (i := 1) rfl; go_simp; try (with_reducible rfl))
          refine rt (i := 5) hHeld ?_
          refine rt (i := 6) hHeld ?_
          refine rt (i := 7) hHeld ?_
          refine rt (i := 8) hHeld ?_
          refine rt (i := 9) hHeld ?_
          try simp only [Act.put, List.setIfInBounds_toArray, List.set_cons_zero, List.set_cons_succ]
          refine rc (i := 10) (fun K hK => ?_)
          go_simp
          go_at_call 81
          (with_reducible refine (AD.out _).mono ?_); rintro e wqa ⟨ra, sa, rfl, la, ca, bqa⟩
          try go_wp2_with fail
          refine hK.out _ _ (Blk.bel hHeld bqa) (fun hHeld => ?_)
          clear hK K
          refine rt (i := 11) hHeld ?_
          refine rt (i := 12) hHeld ?_
          refine rt (i := 13) hHeld ?_
          refine rt (i := 14) hHeld ?_
          have FX := Ho.mk (FX.out.bel ((Bel.refl wz).drew.trans bqa))
          have FY := Ho.mk (FY.out.bel ((Bel.refl wz).drew.trans bqa))
          have GR := Ho.mk (GR.out.tb ((Bel.refl wz).drew.trans bqa))
          obtain ⟨_, p1, _, _⟩ := FX.out.at_ (i := f + i) (by rw [LX.out]; omega)
          have p2 := FX.out.free (f + i)
          try simp only [Act.put, List.setIfInBounds_toArray, List.set_cons_zero, List.set_cons_succ]
          refine rc (i := 15) (fun K hK => ?_)
          go_simp
          refine hK.out _ _ (Blk.far hHeld (p := ⟨b, f + i, none⟩) (by dsimp only; exact NE.out.1.1) _) (fun hHeld => ?_)
          clear hK K
          have FX := Ho.mk (FX.out.set (f + i) la.1 ca.1)
          have FY := Ho.mk (FY.out.far (p := ⟨b, f + i, none⟩) (by dsimp only; exact Ne.symm hb) (.float .f64 ra))
          have GR := Ho.mk (GR.out.set (p := ⟨b, f + i, none⟩) (.inl rfl) (.float .f64 ra))
          clear p1 p2
          generalize World.setCell wqa ⟨b, f + i, none⟩ (.float .f64 ra) = wra at *
          refine rt (i := 16) hHeld ?_
          obtain ⟨_, p1, _, _⟩ := FY.out.at_ (i := f + i) (by rw [LY.out]; omega)
          have p2 := FY.out.free (f + i)
          try simp only [Act.put, List.setIfInBounds_toArray, List.set_cons_zero, List.set_cons_succ]
          refine rc (i := 17) (fun K hK => ?_)
          go_simp
          refine hK.out _ _ (Blk.far hHeld (p := ⟨b', f + i, none⟩) (by dsimp only; exact NE.out.1.2) _) (fun hHeld => ?_)
          clear hK K
          have FY := Ho.mk (FY.out.set (f + i) la.2 ca.2)
          have FX := Ho.mk (FX.out.far (p := ⟨b', f + i, none⟩) (by dsimp only; exact hb) (.float .f64 sa))
          have GR := Ho.mk (GR.out.set (p := ⟨b', f + i, none⟩) (.inr rfl) (.float .f64 sa))
          clear p1 p2
          generalize World.setCell wra ⟨b', f + i, none⟩ (.float .f64 sa) = wsa at *
          try simp only [Act.put, List.setIfInBounds_toArray, List.set_cons_zero, List.set_cons_succ]
          refine wpAnyH_done (by kernel_rfl) ?_ _
          have LX : Ho ((st.1.set (f + i) (fadd (cn r3) (cn r))).length = N) := ⟨by rw [List.length_set]; exact LX.out⟩
          have LY : Ho ((st.2.set (f + i) (fadd (cn r4) (cn s))).length = N) := ⟨by rw [List.length_set]; exact LY.out⟩
          go_upto_region 12 with fail
          have KO2 := Ho.mk (GR.out.blk KO.out NE.out.2.1 NE.out.2.2)
          clear hHeld
          refine wp_region_held_drew (S := fun w' => Blk w' bO 24 [.slice (some ⟨b, f + half, none⟩) half (c - half), .slice (some ⟨b', f + half, none⟩) half (c' - half)]) (by kernel_rfl) (KO2.out.bel (Bel.refl _).drew) (fun hHeld => ?_)
          (try dsimp only at hHeld)
          refine rt (i := 0) hHeld ?_
          refine rl (i := 1) (v := ?_) hHeld (fun w hSw => ?_) ?_
          rotate_left
          · (have z0 := hSw.cell (i := 0) rfl; have z1 := hSw.cell (i := 1) rfl; go_simp; try (with_reducible rfl))
          refine rt (i := 2) hHeld ?_
          refine rt (i := 3) hHeld ?_
          refine rl (i := 4) (v := ?_) hHeld (fun w hSw => ?_) ?_
          rotate_left
          · (have z0 := hSw.cell (i := 0) rfl; have z1 := hSw.cell (i := 1) rfl; go_simp; try (with_reducible rfl))
          refine rt (i := 5) hHeld ?_
          refine rt (i := 6) hHeld ?_
          refine rt (i := 7) hHeld ?_
          refine rt (i := 8) hHeld ?_
          refine rt (i := 9) hHeld ?_
          try simp only [Act.put, List.setIfInBounds_toArray, List.set_cons_zero, List.set_cons_succ]
          refine rc (i := 10) (fun K hK => ?_)
          go_simp
          go_at_call 82
          (with_reducible refine (SU.out _).mono ?_); rintro e wqb ⟨rb, sb, rfl, lb, cb, bqb⟩
          try go_wp2_with fail
          refine hK.out _ _ (Blk.bel hHeld bqb) (fun hHeld => ?_)
          clear hK K
          refine rt (i := 11) hHeld ?_
          refine rt (i := 12) hHeld ?_
          refine rt (i := 13) hHeld ?_
          refine rt (i := 14) hHeld ?_
          have FX := Ho.mk (FX.out.bel ((Bel.refl wsa).drew.trans bqb))
          have FY := Ho.mk (FY.out.bel ((Bel.refl wsa).drew.trans bqb))
          have GR := Ho.mk (GR.out.tb ((Bel.refl wsa).drew.trans bqb))
          obtain ⟨_, p1, _, _⟩ := FX.out.at_ (i := f + half + i) (by rw [LX.out]; omega)
          have p2 := FX.out.free (f + half + i)
          try simp only [Act.put, List.setIfInBounds_toArray, List.set_cons_zero, List.set_cons_succ]
          refine rc (i := 15) (fun K hK => ?_)
          go_simp
          refine hK.out _ _ (Blk.far hHeld (p := ⟨b, f + half + i, none⟩) (by dsimp only; exact NE.out.2.1) _) (fun hHeld => ?_)
          clear hK K
          have FX := Ho.mk (FX.out.set (f + half + i) lb.1 cb.1)
          have FY := Ho.mk (FY.out.far (p := ⟨b, f + half + i, none⟩) (by dsimp only; exact Ne.symm hb) (.float .f64 rb))
          have GR := Ho.mk (GR.out.set (p := ⟨b, f + half + i, none⟩) (.inl rfl) (.float .f64 rb))
          clear p1 p2
          generalize World.setCell wqb ⟨b, f + half + i, none⟩ (.float .f64 rb) = wrb at *
          refine rt (i := 16) hHeld ?_
          obtain ⟨_, p1, _, _⟩ := FY.out.at_ (i := f + half + i) (by rw [LY.out]; omega)
          have p2 := FY.out.free (f + half + i)
          try simp only [Act.put, List.setIfInBounds_toArray, List.set_cons_zero, List.set_cons_succ]
          refine rc (i := 17) (fun K hK => ?_)
          go_simp
          refine hK.out _ _ (Blk.far hHeld (p := ⟨b', f + half + i, none⟩) (by dsimp only; exact NE.out.2.2) _) (fun hHeld => ?_)
          clear hK K
          have FY := Ho.mk (FY.out.set (f + half + i) lb.2 cb.2)
          have FX := Ho.mk (FX.out.far (p := ⟨b', f + half + i, none⟩) (by dsimp only; exact hb) (.float .f64 sb))
          have GR := Ho.mk (GR.out.set (p := ⟨b', f + half + i, none⟩) (.inr rfl) (.float .f64 sb))
          clear p1 p2
          generalize World.setCell wrb ⟨b', f + half + i, none⟩ (.float .f64 sb) = wsb at *
          try simp only [Act.put, List.setIfInBounds_toArray, List.set_cons_zero, List.set_cons_succ]
          refine wpAnyH_done (by kernel_rfl) ?_ _
          clear hHeld
          go_wp2_with fail
          go_roundw
          case rel =>
            have e : mergeS f half tw (X, Y) (i + 1) = ((st.1.set (f + i) (fadd (cn r3) (cn r))).set (f + half + i) (fsub (cn r3) (cn r)), (st.2.set (f + i) (fadd (cn r4) (cn s))).set (f + half + i) (fsub (cn r4) (cn s))) := by
              rw [mergeS_succ, ← HST.out, H34.out.1.2, H34.out.2.2, HC.out.1, HC.out.2]; rfl
            refine ⟨i + 1, by omega, by simp, ⟨?_⟩, ⟨?_⟩, GR⟩
            · rw [e]; exact FX.out
            · rw [e]; exact FY.out
          case measure => simp [intOf]; omega
      · obtain rfl : i = half := by omega
        go_wp2
        go_end0
        exact ⟨rfl, FX.out, FY.out, (gr2_bel G0.out b b').trans HG.out⟩
end Go.Proofs.YtnbdoidccacdnaaGreatDoor.P7
namespace Go.Proofs.YtnbdoidccacdnaaGreatDoor.P8
open Ieee Go Go.RowKit Go.Proofs Go.Proofs.YtnbdoidccacdnaaGreatDoor Ow Pl Dp Dt Gp F1 I0 U0 W0 S4 S6 P0 P1 P2 M0 M1 M2 M3 P3 P4 P5 P6 P7 W4
attribute [local go_sem ↓] Go.wp_at_zero Go.wp_at_succ
theorem tab_ne {w : World} {b : Nat} {X : List Nat} (T : Tab w) (h : Fz w b X) (hl : 0 < X.length) : 2 ≠ b := by
  rintro rfl
  have h1 := T.cell 0 (by decide)
  obtain ⟨r, h2, _⟩ := h.at_ hl
  rw [h1] at h2; cases h2
theorem logI_pow {p : Nat} (hp : p ≤ 10) : logI (2 ^ p) = p := by
  have : ∀ p : Fin 11, logI (2 ^ p.val) = (p.val : Int) := by decide
  exact this ⟨p, by omega⟩
def qOf (v : Value) (w : World) : Nat := match v with
  | .pointer (some a) => match w.cell? a with
    | some (.int _ n) => n.toNat
    | _ => 0
  | _ => 0
theorem qOf_blk {w : World} {b : Nat} {t : TypeId} {n : Int} (h : Blk w b t [.int .i64 n]) : qOf (.pointer (some ⟨b, 0, none⟩)) w = n.toNat := by
  unfold qOf; simp only [h.cell (i := 0) rfl]
def stageS (p : Nat) (tab : Nat → Nat × Nat) (st : List Nat × List Nat) (k : Nat) : List Nat × List Nat := loopN (fun q st => stageG opsN (2 ^ q) (2 ^ (p - (q + 1))) (fun k => tab (k * 2 ^ (p - (q + 1)))) st) k st
theorem stageS_len {p : Nat} (tab : Nat → Nat × Nat) {st : List Nat × List Nat} (h1 : st.1.length = 2 ^ p) (h2 : st.2.length = 2 ^ p) {k : Nat} (hk : k ≤ p) : (stageS p tab st k).1.length = 2 ^ p ∧ (stageS p tab st k).2.length = 2 ^ p :=
  stages_len opsN (fun q k => tab (k * 2 ^ (p - (q + 1)))) h1 h2 hk
theorem stageS_succ (p : Nat) (tab : Nat → Nat × Nat) (st : List Nat × List Nat) (k : Nat) : stageS p tab st (k + 1) = stageG opsN (2 ^ k) (2 ^ (p - (k + 1))) (fun j => tab (j * 2 ^ (p - (k + 1)))) (stageS p tab st k) := rfl
theorem _root_.Go.Proofs.YtnbdoidccacdnaaGreatDoor.W4.Gr2.fk {b c : Nat} {w w' : World} (h : Gr2 b c w w') {b' : Nat} {X : List Nat} (k : Fk w b' X) (n1 : b' ≠ b) (n2 : b' ≠ c) : Fk w' b' X := by
  obtain ⟨cs, h1, h2⟩ := k.out; exact ⟨cs, h.blk h1 n1 n2, h2⟩
theorem nth_range {m k : Nat} (f : Nat → Nat) (h : k < m) : nthN ((List.range m).map f) k = f k := nthG_map opsN f h
def mergesS (half : Nat) (tw : Nat → Nat × Nat) (st : List Nat × List Nat) (j : Nat) : List Nat × List Nat := loopN (fun i st => mergeG opsN (i * (2 * half)) half tw st) j st
theorem mergesS_len {half : Nat} {tw : Nat → Nat × Nat} {st : List Nat × List Nat} (j : Nat) : (mergesS half tw st j).1.length = st.1.length ∧ (mergesS half tw st j).2.length = st.2.length := by
  refine loopN_inv (I := fun _ (s : List Nat × List Nat) => s.1.length = st.1.length ∧ s.2.length = st.2.length) j ⟨rfl, rfl⟩ ?_
  intro k s _ h
  have := mergeS_len (k * (2 * half)) half tw s half
  exact ⟨this.1.trans h.1, this.2.trans h.2⟩
theorem mergesS_succ (half : Nat) (tw : Nat → Nat × Nat) (st : List Nat × List Nat) (j : Nat) : mergesS half tw st (j + 1) = mergeG opsN (j * (2 * half)) half tw (mergesS half tw st j) := rfl
theorem swapG_len (od X : List Nat) : (swapG opsN od X).length = X.length := swapK_len od X od.length
set_option maxRecDepth 100000 in
set_option maxHeartbeats 16000000 in
theorem dInto {p N c c' b b' : Nat} {X Y : List Nat} (W0 : World) (T : Tab W0) (KX : Fz W0 b X) (KY : Fz W0 b' Y) (hb : b ≠ b') (hN : N = 2 ^ p) (hX : X.length = N) (hY : Y.length = N) (hp7 : p ≤ 7) (hc : N ≤ c) (hc' : N ≤ c') (hC : c ≤ 9223372036854775807) (hC' : c' ≤ 9223372036854775807) :
    Calls Tryz.prog 55 #[.agg #[.slice (some ⟨b, 0, none⟩) N c, .slice (some ⟨b', 0, none⟩) N c']] W0
      fun e w' => e = .returned (.int .i64 0) ∧ Fz w' b (intoG opsN (bitsG p) p (tabW p) (X, Y)).1 ∧ Fz w' b' (intoG opsN (bitsG p) p (tabW p) (X, Y)).2 ∧ Gr2 b b' W0 w' := by
  have hpos : 0 < N := by rw [hN]; exact Nat.two_pow_pos p
  have h128 : N ≤ 128 := by rw [hN]; exact Nat.le_trans (Nat.pow_le_pow_right (by decide) hp7) (by decide)
  have b2 := tab_ne T KX (by omega)
  have b2' := tab_ne T KY (by omega)
  have lp : logI N = p := by rw [hN]; exact logI_pow (by omega)
  have RI : Ho (∀ w, Bel W0 w → Calls Tryz.prog 99 #[.agg #[.slice (some ⟨b, 0, none⟩) N c, .slice (some ⟨b', 0, none⟩) N c']] w (fun e w' => e = .returned (.bool true) ∧ Bel w w')) := ⟨fun w g => by
    have h := dRightV (n := N) (m := N) (c := c) (c' := c') (A := some ⟨b, 0, none⟩) (B := some ⟨b', 0, none⟩) w (T.bel g) (by omega) (by omega)
    rw [lp, show decide (N = N ∧ (0 : Int) ≤ (p : Int)) = true from by simp] at h; exact h⟩
  have LG : Ho (∀ w, Bel W0 w → Calls Tryz.prog 100 #[.int .i64 (N : Int)] w fun e w' => e = .returned (.int .i64 (p : Int)) ∧ w = w') := ⟨fun w g => by
    have h := dLog (n := N) (fn := 100) rfl w (by omega) (T.bel g)
    rw [lp] at h; exact h⟩
  have BI : Ho (∀ w, Calls Tryz.prog 101 #[.int .i64 (p : Int)] w fun e w' => ∃ b, e = .returned (.slice (some ⟨b, 0, none⟩) N N) ∧ Blk w' b 3 (insN (bitsG p)) ∧ w.heap.size ≤ b ∧ Bel w w') := ⟨fun w => by
    have h := dBits (p := p) w rfl hp7
    rw [← hN] at h; exact h⟩
  have TT := Ho.mk T
  have K1 := Ho.mk KX
  have K2 := Ho.mk KY
  have HX := Ho.mk hX
  have HY := Ho.mk hY
  have lb := KX.lt
  have lb' := KY.lt
  have IV := Ho.mk (inv_bits hp7)
  have KV := Ho.mk (Blk.new W0 [.slice (some ⟨b, 0, none⟩) N c, .slice (some ⟨b', 0, none⟩) N c'] 24)
  have g0 := Ho.mk ((Bel.refl W0).alloc (.cells #[.slice (some ⟨b, 0, none⟩) N c, .slice (some ⟨b', 0, none⟩) N c'] 24))
  have HN := Ho.mk hN
  rw [← hN] at IV
  clear KX KY T hX hY lp hN
  go_enter Tryz.func55, Tryz.ntmps55
  go_upto_region 1 with fail
  have hs := Ho.mk (show (W0.alloc (.cells #[.slice (some ⟨b, 0, none⟩) N c, .slice (some ⟨b', 0, none⟩) N c'] 24)).heap.size = W0.heap.size + 1 from World.size_alloc _ _)
  generalize W0.alloc (.cells #[.slice (some ⟨b, 0, none⟩) N c, .slice (some ⟨b', 0, none⟩) N c'] 24) = W at *
  have y0 := KV.out.cell (i := 0) rfl
  have y1 := KV.out.cell (i := 1) rfl
  go_wp2_with fail
  (with_reducible refine (RI.out _ g0.out).mono ?_); rintro e w1 ⟨rfl, b1⟩
  have KV := Ho.mk (KV.out.bel b1)
  have g1 := Ho.mk (g0.out.trans b1)
  have l1 : W0.heap.size < w1.heap.size := by have := b1.size; have := hs.out; omega
  clear y0 y1 b1 hs g0 RI
  have y0 := KV.out.cell (i := 0) rfl
  have y1 := KV.out.cell (i := 1) rfl
  go_wp2_with fail
  (with_reducible refine (LG.out _ g1.out).mono ?_); rintro e w1 ⟨rfl, rfl⟩
  go_upto_region 4 with fail
  have KP := Ho.mk (Blk.new w1 [.int .i64 (p : Int)] 3)
  have KV := Ho.mk (KV.out.old (.cells #[.int .i64 (p : Int)] 3))
  have g2 := Ho.mk (g1.out.alloc (.cells #[.int .i64 (p : Int)] 3))
  have l2 : w1.heap.size < (w1.alloc (.cells #[.int .i64 (p : Int)] 3)).heap.size := by rw [World.size_alloc]; exact Nat.lt_succ_self _
  clear y0 y1 g1 LG
  obtain ⟨bp, hbp⟩ : ∃ bp, bp = w1.heap.size := ⟨_, rfl⟩
  rw [← hbp] at KP l2 l1 ⊢
  clear hbp
  generalize w1.alloc (.cells #[.int .i64 (p : Int)] 3) = W2 at *
  have y2 := KP.out.cell (i := 0) rfl
  go_wp2_with fail
  (with_reducible refine (BI.out _).mono ?_); rintro e w3 ⟨bo, rfl, KO, l3, b3⟩
  have KV := Ho.mk (KV.out.bel b3)
  have KP := Ho.mk (KP.out.bel b3)
  have g3 := Ho.mk (g2.out.trans b3)
  have l4 : bp < bo := Nat.lt_of_lt_of_le l2 l3
  have KO := Ho.mk KO
  clear y2 b3 l3 l2 g2 BI
  have y0 := KV.out.cell (i := 0) rfl
  have SW1 := Ho.mk (dSwap (c := c) (co := N) (N := N) w3 (K1.out.bel g3.out) KO.out HX.out IV.out.len IV.out.lt (by omega) (by omega))
  go_wp2_with fail
  (with_reducible refine SW1.out.mono ?_); rintro e w4 ⟨rfl, f4, G4⟩
  have KV := Ho.mk (G4.blk KV.out (by omega))
  have KP := Ho.mk (G4.blk KP.out (by omega))
  have KO := Ho.mk (G4.blk KO.out (by omega))
  have F2 := Ho.mk (gr_fz G4 (K2.out.bel g3.out) (Ne.symm hb))
  have F1 := Ho.mk f4
  have G4 := Ho.mk ((gr2_bel g3.out b b').trans (Gr2.of1 G4))
  clear y0 f4 g3 SW1
  have y1 := KV.out.cell (i := 1) rfl
  have SW2 := Ho.mk (dSwap (c := c') (co := N) (N := N) w4 F2.out KO.out HY.out IV.out.len IV.out.lt (by omega) (by omega))
  go_wp2_with fail
  (with_reducible refine SW2.out.mono ?_); rintro e w5 ⟨rfl, f5, G5⟩
  have KV := Ho.mk (G5.blk KV.out (by omega))
  have KP := Ho.mk (G5.blk KP.out (by omega))
  have F1 := Ho.mk (gr_fz G5 F1.out hb)
  have F2 := Ho.mk f5
  have G5 := Ho.mk (G4.out.trans (Gr2.of2 G5))
  clear y1 f5 G4 SW2 KO
  go_upto_region 7 with fail
  have y2 := KP.out.cell (i := 0) rfl
  have hmi : IntKind.i64.wrap ((IntKind.i64.wrap (2 ^ p)).tdiv 2) = ((N / 2 : Nat) : Int) := by
    have e : ((2 : Int) ^ p) = ((N : Nat) : Int) := by rw [HN.out]; push_cast; rfl
    rw [e, show IntKind.i64.wrap (N : Int) = (N : Int) from by rw [IntKind.wrap_i64]; omega, Int.tdiv_eq_ediv_of_nonneg (by omega), IntKind.wrap_i64]; omega
  have l5 := G5.out.size
  have TB := Ho.mk (fun w (g : Bel w5 w) => dTable (q := p) (m := N / 2) w ((G5.out.tab TT.out b2 b2').bel g) rfl (by omega) hmi (by omega))
  clear hmi
  go_cut [5] from 26 to 30 (fun s5 wy => ∃ (bW bC bS : Nat), s5 = .pointer (some ⟨bW, 0, none⟩) ∧ Ho (Blk wy bW 24 [.slice (some ⟨bC, 0, none⟩) (N / 2) (N / 2), .slice (some ⟨bS, 0, none⟩) (N / 2) (N / 2)]) ∧ Ho (Fk wy bC ((List.range (N / 2)).map fun k => (tabW p k).1)) ∧ Ho (Fk wy bS ((List.range (N / 2)).map fun k => (tabW p k).2)) ∧ Ho (Bel w5 wy) ∧ Ho (W0.heap.size ≤ bW) ∧ Ho (W0.heap.size ≤ bC) ∧ Ho (W0.heap.size ≤ bS))
  case first =>
    refine wp_region_held_drew (S := fun w' => Bel w5 w') (by kernel_rfl) (Bel.refl _).drew (fun hHeld => ?_)
    (try dsimp only at hHeld)
    generalize w5.drew = wd at *
    refine rl (i := 0) (v := ?_) hHeld (fun w hSw => ?_) ?_
    rotate_left
    · (have z0 := hSw.cell y2; go_simp; try (with_reducible rfl))
    refine rl (i := 1) (v := ?_) hHeld (fun w hSw => ?_) ?_
    rotate_left
    · (have z0 := hSw.cell y2; go_simp; try (with_reducible rfl))
    refine rt (i := 2) hHeld ?_
    refine rt (i := 3) hHeld ?_
    try simp only [Act.put, List.setIfInBounds_toArray, List.set_cons_zero, List.set_cons_succ]
    refine I6.rc2 (i := 4) (j := 5) (fun K hK => ?_) (fun K hK => ?_)
    · go_simp
      go_at_call 83
      (with_reducible refine (TB.out _ hHeld).mono ?_); rintro e v1 ⟨bC, bS, rfl, fC, fS, lC, lS, bv1⟩
      have FC := Ho.mk fC
      have FS := Ho.mk fS
      have lt_bC := fC.lt
      have lt_bS := fS.lt
      have lwC := hHeld.size
      clear fC fS
      try go_wp2_with fail
      refine hK.out _ _ (Bel.trans hHeld bv1) (fun hHeld => ?_)
      clear hK K
      clear bv1
      try simp only [Act.put, List.setIfInBounds_toArray, List.set_cons_zero, List.set_cons_succ]
      refine rc (i := 5) (fun K hK => ?_)
      go_simp
      have le_bW := hHeld.size
      refine hK.out _ _ (Bel.alloc hHeld _) (fun hHeld => ?_)
      clear hK K
      have KW := Ho.mk (Blk.new v1 [.slice none 0 0, .slice none 0 0] 24)
      have FC := Ho.mk (FC.out.bel ((Bel.refl v1).alloc (.cells #[.slice none 0 0, .slice none 0 0] 24)))
      have FS := Ho.mk (FS.out.bel ((Bel.refl v1).alloc (.cells #[.slice none 0 0, .slice none 0 0] 24)))
      have lt_bC := Nat.lt_of_lt_of_le lt_bC ((Bel.refl v1).alloc (.cells #[.slice none 0 0, .slice none 0 0] 24)).size
      have lt_bS := Nat.lt_of_lt_of_le lt_bS ((Bel.refl v1).alloc (.cells #[.slice none 0 0, .slice none 0 0] 24)).size
      have lt_bW : v1.heap.size < (World.alloc v1 (.cells #[.slice none 0 0, .slice none 0 0] 24)).heap.size := by rw [World.size_alloc]; exact Nat.lt_succ_self _
      obtain ⟨bW, hp_bW⟩ : ∃ p, p = v1.heap.size := ⟨_, rfl⟩
      rw [← hp_bW] at KW le_bW lt_bW
      rw [← hp_bW]
      have ne_bC_bW : bC ≠ bW := by omega
      have en_bC_bW : bW ≠ bC := by omega
      have ne_bS_bW : bS ≠ bW := by omega
      have en_bS_bW : bW ≠ bS := by omega
      clear hp_bW
      generalize World.alloc v1 (.cells #[.slice none 0 0, .slice none 0 0] 24) = v2 at *
      try simp only [Act.put, List.setIfInBounds_toArray, List.set_cons_zero, List.set_cons_succ]
      have y0 := KW.out.cell (i := 0) rfl
      have y1 := KW.out.cell (i := 1) rfl
      have x0 := KW.out.free 0
      have x1 := KW.out.free 1
      refine rc (i := 6) (fun K hK => ?_)
      go_simp
      have FC := Ho.mk ((FC.out.far (p := ⟨bW, 0, none⟩) (by dsimp only; omega) (.slice (some ⟨bC, 0, none⟩) (N / 2) (N / 2))).far (p := ⟨bW, 1, none⟩) (by dsimp only; omega) (.slice (some ⟨bS, 0, none⟩) (N / 2) (N / 2)))
      have FS := Ho.mk ((FS.out.far (p := ⟨bW, 0, none⟩) (by dsimp only; omega) (.slice (some ⟨bC, 0, none⟩) (N / 2) (N / 2))).far (p := ⟨bW, 1, none⟩) (by dsimp only; omega) (.slice (some ⟨bS, 0, none⟩) (N / 2) (N / 2)))
      have KW := Ho.mk ((KW.out.set 0 (.slice (some ⟨bC, 0, none⟩) (N / 2) (N / 2))).set 1 (.slice (some ⟨bS, 0, none⟩) (N / 2) (N / 2)))
      simp only [List.set_cons_zero, List.set_cons_succ] at KW
      refine hK.out _ _ ⟨((hHeld.out.setCell (p := ⟨bW, 0, none⟩) (by dsimp only; omega) (.slice (some ⟨bC, 0, none⟩) (N / 2) (N / 2))).setCell (p := ⟨bW, 1, none⟩) (by dsimp only; omega) (.slice (some ⟨bS, 0, none⟩) (N / 2) (N / 2)))⟩ (fun hHeld => ?_)
      clear hK K y0 x0 y1 x1
      generalize World.setCell (World.setCell v2 ⟨bW, 0, none⟩ (.slice (some ⟨bC, 0, none⟩) (N / 2) (N / 2))) ⟨bW, 1, none⟩ (.slice (some ⟨bS, 0, none⟩) (N / 2) (N / 2)) = v3 at *
      try simp only [Act.put, List.setIfInBounds_toArray, List.set_cons_zero, List.set_cons_succ]
      refine wpAnyH_done (by kernel_rfl) ?_ _
      go_wp2_with fail
      go_meet
      exact ⟨bW, bC, bS, rfl, KW, FC, FS, ⟨hHeld⟩, ⟨by omega⟩, ⟨by omega⟩, ⟨by omega⟩⟩
    · go_simp
      have le_bW := hHeld.size
      refine hK.out _ _ (Bel.alloc hHeld _) (fun hHeld => ?_)
      clear hK K
      have KW := Ho.mk (Blk.new wd [.slice none 0 0, .slice none 0 0] 24)
      have lt_bW : wd.heap.size < (World.alloc wd (.cells #[.slice none 0 0, .slice none 0 0] 24)).heap.size := by rw [World.size_alloc]; exact Nat.lt_succ_self _
      obtain ⟨bW, hp_bW⟩ : ∃ p, p = wd.heap.size := ⟨_, rfl⟩
      rw [← hp_bW] at KW le_bW lt_bW
      rw [← hp_bW]
      clear hp_bW
      generalize World.alloc wd (.cells #[.slice none 0 0, .slice none 0 0] 24) = v4 at *
      try simp only [Act.put, List.setIfInBounds_toArray, List.set_cons_zero, List.set_cons_succ]
      refine rc (i := 4) (fun K hK => ?_)
      go_simp
      go_at_call 83
      (with_reducible refine (TB.out _ hHeld).mono ?_); rintro e v5 ⟨bC, bS, rfl, fC, fS, lC, lS, bv5⟩
      have FC := Ho.mk fC
      have FS := Ho.mk fS
      have lt_bC := fC.lt
      have lt_bS := fS.lt
      have lwC := hHeld.size
      clear fC fS
      try go_wp2_with fail
      refine hK.out _ _ (Bel.trans hHeld bv5) (fun hHeld => ?_)
      clear hK K
      have KW := Ho.mk (KW.out.bel bv5)
      have lt_bW := Nat.lt_of_lt_of_le lt_bW bv5.size
      clear bv5
      try simp only [Act.put, List.setIfInBounds_toArray, List.set_cons_zero, List.set_cons_succ]
      have y0 := KW.out.cell (i := 0) rfl
      have y1 := KW.out.cell (i := 1) rfl
      have x0 := KW.out.free 0
      have x1 := KW.out.free 1
      refine rc (i := 6) (fun K hK => ?_)
      go_simp
      have FC := Ho.mk ((FC.out.far (p := ⟨bW, 0, none⟩) (by dsimp only; omega) (.slice (some ⟨bC, 0, none⟩) (N / 2) (N / 2))).far (p := ⟨bW, 1, none⟩) (by dsimp only; omega) (.slice (some ⟨bS, 0, none⟩) (N / 2) (N / 2)))
      have FS := Ho.mk ((FS.out.far (p := ⟨bW, 0, none⟩) (by dsimp only; omega) (.slice (some ⟨bC, 0, none⟩) (N / 2) (N / 2))).far (p := ⟨bW, 1, none⟩) (by dsimp only; omega) (.slice (some ⟨bS, 0, none⟩) (N / 2) (N / 2)))
      have KW := Ho.mk ((KW.out.set 0 (.slice (some ⟨bC, 0, none⟩) (N / 2) (N / 2))).set 1 (.slice (some ⟨bS, 0, none⟩) (N / 2) (N / 2)))
      simp only [List.set_cons_zero, List.set_cons_succ] at KW
      refine hK.out _ _ ⟨((hHeld.out.setCell (p := ⟨bW, 0, none⟩) (by dsimp only; omega) (.slice (some ⟨bC, 0, none⟩) (N / 2) (N / 2))).setCell (p := ⟨bW, 1, none⟩) (by dsimp only; omega) (.slice (some ⟨bS, 0, none⟩) (N / 2) (N / 2)))⟩ (fun hHeld => ?_)
      clear hK K y0 x0 y1 x1
      generalize World.setCell (World.setCell v5 ⟨bW, 0, none⟩ (.slice (some ⟨bC, 0, none⟩) (N / 2) (N / 2))) ⟨bW, 1, none⟩ (.slice (some ⟨bS, 0, none⟩) (N / 2) (N / 2)) = v6 at *
      try simp only [Act.put, List.setIfInBounds_toArray, List.set_cons_zero, List.set_cons_succ]
      refine wpAnyH_done (by kernel_rfl) ?_ _
      go_wp2_with fail
      go_meet
      exact ⟨bW, bC, bS, rfl, KW, FC, FS, ⟨hHeld⟩, ⟨by omega⟩, ⟨by omega⟩, ⟨by omega⟩⟩
  case rest =>
    obtain ⟨bW, bC, bS, rfl, KW, FC, FS, HB, LW, LC, LS⟩ := hcut
    have KV := Ho.mk (KV.out.bel HB.out)
    have KP := Ho.mk (KP.out.bel HB.out)
    have F1 := Ho.mk (F1.out.bel HB.out)
    have F2 := Ho.mk (F2.out.bel HB.out)
    have G6 := Ho.mk (G5.out.tb HB.out)
    clear y2 TB HB G5
    obtain ⟨wo, rfl⟩ : ∃ wo : World, wo = wc := ⟨_, rfl⟩
    have FCl := FC.out.lt
    have FSl := FS.out.lt
    have KWl := KW.out.lt
    have KPl := KP.out.lt
    have KVl := KV.out.lt
    have lwo := G6.out.size
    have LL := Ho.mk (And.intro LW.out (And.intro LC.out (And.intro LS.out (And.intro FCl (And.intro FSl (And.intro KWl (And.intro KPl (And.intro KVl lwo))))))))
    have LB := Ho.mk (And.intro l1 (And.intro lb lb'))
    clear LW LC LS FCl FSl KWl KPl KVl lwo l1 lb lb' l4 l5
    go_wp2_with fail
    go_loopw [6] (fun v wr => ∃ (q bq : Nat) (z : Int), q ≤ p ∧ v = .pointer (some ⟨bq, 0, none⟩) ∧ Ho (z = q + 1) ∧ Ho (wo.heap.size ≤ bq) ∧ Ho (Blk wr bq 3 [.int .i64 z]) ∧ Ho (Fz wr b (stageS p (tabW p) (swapG opsN (bitsG p) X, swapG opsN (bitsG p) Y) q).1) ∧ Ho (Fz wr b' (stageS p (tabW p) (swapG opsN (bitsG p) X, swapG opsN (bitsG p) Y) q).2) ∧ Ho (Gr2 b b' wo wr)) (fun v w => p + 2 - qOf v w)
    case atStart =>
      have a1 := (Bel.refl wo).alloc (.cells #[.int .i64 1] 3)
      exact ⟨0, wo.heap.size, 1, Nat.zero_le _, rfl, ⟨by simp⟩, ⟨Nat.le_refl _⟩, ⟨Blk.new wo [.int .i64 1] 3⟩, ⟨F1.out.bel a1⟩, ⟨F2.out.bel a1⟩, ⟨gr2_bel a1 b b'⟩⟩
    case round =>
      obtain ⟨wq, rfl⟩ : ∃ wq : World, wq = wr := ⟨_, rfl⟩
      obtain ⟨q, bq, z, hq, rfl, HZ, HQ, KQ, FX, FY, HG⟩ := hrel
      have KP1 := Ho.mk (HG.out.blk KP.out (by have := LB.out; omega) (by have := LB.out; omega))
      have y2 := KP1.out.cell (i := 0) rfl
      have y3 := KQ.out.cell (i := 0) rfl
      rcases Nat.lt_or_ge q p with hlt | hge
      · have hzp : z ≤ (p : Int) := by have := HZ.out; omega
        have hz1 : 1 ≤ z := by have := HZ.out; omega
        have KV1 := Ho.mk (HG.out.blk KV.out (by have := LB.out; omega) (by have := LB.out; omega))
        obtain ⟨st, hst⟩ : ∃ st, st = stageS p (tabW p) (swapG opsN (bitsG p) X, swapG opsN (bitsG p) Y) q := ⟨_, rfl⟩
        have HST := Ho.mk hst
        rw [← hst] at FX FY
        have hl := stageS_len (p := p) (tabW p) (st := (swapG opsN (bitsG p) X, swapG opsN (bitsG p) Y)) (by rw [swapG_len, HX.out, HN.out]) (by rw [swapG_len, HY.out, HN.out]) (k := q) (by omega)
        rw [← hst, ← HN.out] at hl
        have HSL := Ho.mk hl
        clear hst hl
        obtain ⟨half, hhalf⟩ : ∃ half, half = 2 ^ q := ⟨_, rfl⟩
        obtain ⟨many, hmany⟩ : ∃ many, many = 2 ^ (p - (q + 1)) := ⟨_, rfl⟩
        have hmN : many * (2 * half) = N := by rw [hmany, hhalf, HN.out]; exact pow_split hlt
        have hh0 : 0 < half := by rw [hhalf]; exact Nat.two_pow_pos q
        have HH := Ho.mk (And.intro hhalf hmany)
        have HMN := Ho.mk hmN
        clear hhalf hmany hmN
        have h2z : (2 : Int) ^ z.toNat = ((2 * half : Nat) : Int) := by
          rw [HH.out.1, show z.toNat = q + 1 by have := HZ.out; omega, Int.pow_succ]; push_cast; omega
        have hhN : 2 * half ≤ N := by
          have h1 : 0 < many := by rw [HH.out.2]; exact Nat.two_pow_pos _
          have := HMN.out
          have h2 : 1 * (2 * half) ≤ many * (2 * half) := Nat.mul_le_mul_right _ h1
          omega
        obtain ⟨H2, hH2⟩ : ∃ H2 : Nat, H2 = 2 * half := ⟨_, rfl⟩
        rw [← hH2] at h2z
        have HH2 := Ho.mk hH2
        clear hH2
        have hw1 : IntKind.i64.wrap ((2 : Int) ^ z.toNat) = (H2 : Int) := by rw [h2z, IntKind.wrap_i64]; have := HH2.out; omega
        have hw2 : wrap64 ((2 : Int) ^ z.toNat) = (H2 : Int) := by rw [h2z]; unfold wrap64; have := HH2.out; omega
        clear h2z
        go_wp2_with fail
        go_loopw [8] (fun v wr => ∃ (j F : Nat), j ≤ many ∧ v = .int .i64 (F : Int) ∧ Ho (F = j * (2 * half)) ∧ Ho (Fz wr b (mergesS half (fun k => tabW p (k * 2 ^ (p - (q + 1)))) st j).1) ∧ Ho (Fz wr b' (mergesS half (fun k => tabW p (k * 2 ^ (p - (q + 1)))) st j).2) ∧ Ho (Gr2 b b' wq wr)) (fun v _ => N - (intOf v).toNat)
        case atStart => exact ⟨0, 0, Nat.zero_le _, rfl, ⟨by simp⟩, FX, FY, ⟨Gr2.refl _ _ _⟩⟩
        case round =>
          obtain ⟨j, F, hj, rfl, HF, GX, GY, H1⟩ := hrel
          have lB := LB.out
          have lq := HQ.out
          have lLL := LL.out
          have KV2 := Ho.mk (H1.out.blk KV1.out (by omega) (by omega))
          have KQ2 := Ho.mk (H1.out.blk KQ.out (by omega) (by omega))
          have KP2 := Ho.mk (H1.out.blk KP1.out (by omega) (by omega))
          have v0 := KV2.out.cell (i := 0) rfl
          have v1 := KV2.out.cell (i := 1) rfl
          have q0 := KQ2.out.cell (i := 0) rfl
          have ML := Ho.mk (mergesS_len (half := half) (tw := fun k => tabW p (k * 2 ^ (p - (q + 1)))) (st := st) j)
          rcases Nat.lt_or_ge j many with jlt | jge
          · have hFN : F + H2 ≤ N := by
              have h1 : (j + 1) * (2 * half) ≤ many * (2 * half) := Nat.mul_le_mul_right _ jlt
              have := HMN.out
              have := HF.out
              have := HH2.out
              rw [Nat.succ_mul] at h1; omega
            have hH20 : 0 < H2 := by have := HH2.out; omega
            obtain ⟨E, hE⟩ : ∃ E : Nat, E = F + H2 := ⟨_, rfl⟩
            have hEN : E ≤ N := by omega
            have hFE : F < E := by omega
            have hwE : IntKind.i64.wrap ((F : Int) + (H2 : Int)) = (E : Int) := by rw [hE, IntKind.wrap_i64]; omega
            have HE := Ho.mk hE
            have PT := Ho.mk (fun w => dPart (b := b) (b' := b') (o := 0) (n := N) (m := N) (f := F) (t := E) (c := c) (c' := c') w hFE (by omega) (by omega) hc hc' hC hC')
            have MG := Ho.mk (fun w (g : Bel wr w) => dMerge (half := half) (f := F) (c := c - F) (c' := c' - F) (b := b) (b' := b') (bw := bW) (bp := bp) (bq := bq) (N := N) (tw := fun k => tabW p (k * 2 ^ (p - (q + 1)))) w (GX.out.bel g) (GY.out.bel g) hb (by rw [ML.out.1]; exact HSL.out.1) (by rw [ML.out.2]; exact HSL.out.2)
              (by have := HH2.out; omega) hh0 (by omega) (by have := HH2.out; omega) (by have := HH2.out; omega) (by omega) (by omega)
              (fun k k0 kh w' gw => by
                have gg : Gr2 b b' wq w' := (H1.out.tb g).trans gw
                have gh : Gr2 b b' wo w' := HG.out.trans gg
                have hi : k * 2 ^ (p - (q + 1)) < N / 2 := by
                  have h1 : k * 2 ^ (p - (q + 1)) < half * 2 ^ (p - (q + 1)) := Nat.mul_lt_mul_of_pos_right kh (Nat.two_pow_pos _)
                  have h2 : many * (2 * half) = 2 * (half * 2 ^ (p - (q + 1))) := by rw [HH.out.2, Nat.mul_comm (2 ^ (p - (q + 1))), Nat.mul_assoc]
                  have := HMN.out
                  omega
                have hz : ((q + 1 : Nat) : Int) = z := by have := HZ.out; omega
                have h := dAt (k := k) (p := p) (q := q + 1) (m := N / 2) (bw := bW) (bp := bp) (bq := bq) w' (gh.blk KW.out (by omega) (by omega)) (gh.blk KP.out (by omega) (by omega)) (by rw [hz]; exact gg.blk KQ.out (by omega) (by omega))
                  (gh.fk FC.out (by omega) (by omega)) (gh.fk FS.out (by omega) (by omega)) (by omega) hlt (by have := HH2.out; omega) hi (by simp) (by simp) (by omega)
                rw [nth_range _ hi, nth_range _ hi] at h
                exact h))
            have h2h : 2 * half = E - F := by have := HH2.out; omega
            rw [h2h] at MG
            simp only [Nat.zero_add] at PT
            clear hE h2h lB lq lLL
            go_upto_region 15 with fail
            refine wp_region_held_drew (S := fun w' => Blk w' W0.heap.size 24 [.slice (some ⟨b, 0, none⟩) N c, .slice (some ⟨b', 0, none⟩) N c'] ∧ Blk w' bq 3 [.int .i64 z]) (by kernel_rfl) ⟨KV2.out.bel (Bel.refl _).drew, KQ2.out.bel (Bel.refl _).drew⟩ (fun hHeld => ?_)
            (try dsimp only at hHeld)
            refine rl (i := 0) (v := ?_) hHeld (fun w hSw => ?_) ?_
            rotate_left
            · (have z0 := hSw.1.cell (i := 0) rfl; have z1 := hSw.1.cell (i := 1) rfl; have z2 := hSw.2.cell (i := 0) rfl; go_simp; try (with_reducible rfl))
            refine rt (i := 1) hHeld ?_
            refine rt (i := 2) hHeld ?_
            refine rl (i := 3) (v := ?_) hHeld (fun w hSw => ?_) ?_
            rotate_left
            · (have z0 := hSw.1.cell (i := 0) rfl; have z1 := hSw.1.cell (i := 1) rfl; have z2 := hSw.2.cell (i := 0) rfl; go_simp; try (with_reducible rfl))
            refine rt (i := 4) hHeld ?_
            refine rt (i := 5) hHeld ?_
            refine rt (i := 7) hHeld ?_
            try simp only [Act.put, List.setIfInBounds_toArray, List.set_cons_zero, List.set_cons_succ]
            refine rc (i := 6) (fun K hK => ?_)
            go_simp
            go_at_call 105
            (with_reducible refine (PT.out _).mono ?_); rintro e w8 ⟨rfl, b8⟩
            try go_wp2_with fail
            refine hK.out _ _ ⟨hHeld.1.bel b8, hHeld.2.bel b8⟩ (fun hHeld => ?_)
            clear hK K
            try simp only [Act.put, List.setIfInBounds_toArray, List.set_cons_zero, List.set_cons_succ]
            refine rc (i := 8) (fun K hK => ?_)
            go_simp
            go_at_call 104
            (with_reducible refine (MG.out _ ((Bel.refl _).drew.trans b8)).mono ?_); rintro e w9 ⟨rfl, x9, y9, g9⟩
            try go_wp2_with fail
            have GX9 := Ho.mk x9
            have GY9 := Ho.mk y9
            have gG := (gr2_bel ((Bel.refl wr).drew.trans b8) b b').trans g9
            clear x9 y9
            refine hK.out _ _ ⟨g9.blk hHeld.1 (by have := LB.out; omega) (by have := LB.out; omega), g9.blk hHeld.2 (by have := LB.out; have := HQ.out; have := LL.out; omega) (by have := LB.out; have := HQ.out; have := LL.out; omega)⟩ (fun hHeld => ?_)
            clear hK K
            try simp only [Act.put, List.setIfInBounds_toArray, List.set_cons_zero, List.set_cons_succ]
            refine wpAnyH_done (by kernel_rfl) ?_ _
            clear hHeld
            have q0 := (gG.blk KQ2.out (by have := LB.out; have := HQ.out; have := LL.out; omega) (by have := LB.out; have := HQ.out; have := LL.out; omega)).cell (i := 0) rfl
            have GG := Ho.mk ((gr2_bel ((Bel.refl wr).drew.trans b8) b b').trans g9)
            clear g9 b8
            go_wp2
            go_roundw
            case rel =>
              refine ⟨j + 1, F + H2, by omega, by rw [HE.out], ⟨?_⟩, ⟨?_⟩, ⟨?_⟩, ⟨H1.out.trans GG.out⟩⟩
              · have := HF.out; have := HH2.out; rw [Nat.succ_mul]; omega
              · rw [mergesS_succ, ← HF.out]; exact GX9.out
              · rw [mergesS_succ, ← HF.out]; exact GY9.out
            case measure => simp [intOf]; omega
          · obtain rfl : j = many := by omega
            have e9 : stageS p (tabW p) (swapG opsN (bitsG p) X, swapG opsN (bitsG p) Y) (q + 1) = mergesS half (fun k => tabW p (k * 2 ^ (p - (q + 1)))) st j := by
              rw [stageS_succ, ← HST.out, ← HH.out.1, ← HH.out.2]; rfl
            have HE9 := Ho.mk e9
            have hFN : ¬ F < N := by have := HF.out; have := HMN.out; omega
            have GZ := Ho.mk (HG.out.trans H1.out)
            have lz := GZ.out.size
            clear e9 KV1 KP1
            go_wp2_with fail
            go_roundw
            case rel =>
              have aa := (Bel.refl wr).alloc (.cells #[.int .i64 (z + 1)] 3)
              exact ⟨q + 1, wr.heap.size, z + 1, by omega, rfl, ⟨by have := HZ.out; omega⟩, ⟨lz⟩, ⟨Blk.new wr [.int .i64 (z + 1)] 3⟩, ⟨by rw [HE9.out]; exact GX.out.bel aa⟩, ⟨by rw [HE9.out]; exact GY.out.bel aa⟩, ⟨GZ.out.tb aa⟩⟩
            case measure =>
              rw [qOf_blk (Blk.new wr [.int .i64 (z + 1)] 3), qOf_blk KQ.out]
              have := HZ.out
              omega
      · obtain rfl : q = p := by omega
        have hzp : (q : Int) < z := by have := HZ.out; omega
        go_wp2
        go_ret
        exact ⟨rfl, FX.out, FY.out, G6.out.trans HG.out⟩
end Go.Proofs.YtnbdoidccacdnaaGreatDoor.P8
namespace Go.Proofs.YtnbdoidccacdnaaGreatDoor.W5
open Ieee Go Go.RowKit Go.Proofs Go.Proofs.YtnbdoidccacdnaaGreatDoor Ow Dt Gp W0 S4 M0 M1 M3 W4
attribute [local go_sem ↓] Go.wp_at_zero Go.wp_at_succ
structure RowF (w : World) (B : Nat) (v : Value) (X : List Nat) : Prop where
  out : ∃ A c, v = .slice A X.length c ∧ X.length ≤ c ∧ c ≤ 9223372036854775807 ∧ (X.length = 0 ∨ ∃ b, A = some ⟨b, 0, none⟩ ∧ Fz w b X ∧ B ≤ b)
theorem RowF.bel {w w' : World} {B : Nat} {v : Value} {X : List Nat} (h : RowF w B v X) (g : Bel w w') : RowF w' B v X := by
  obtain ⟨A, c, h1, h2, h3, h4⟩ := h.out
  exact ⟨A, c, h1, h2, h3, h4.imp id fun ⟨b, e, f, l⟩ => ⟨b, e, f.bel g, l⟩⟩
theorem RowF.mono {w : World} {B B' : Nat} {v : Value} {X : List Nat} (h : RowF w B v X) (g : B' ≤ B) : RowF w B' v X := by
  obtain ⟨A, c, h1, h2, h3, h4⟩ := h.out
  exact ⟨A, c, h1, h2, h3, h4.imp id fun ⟨b, e, f, l⟩ => ⟨b, e, f, Nat.le_trans g l⟩⟩
theorem RowF.at_ {w : World} {B : Nat} {v : Value} {X : List Nat} (h : RowF w B v X) (hp : 0 < X.length) : ∃ b c, v = .slice (some ⟨b, 0, none⟩) X.length c ∧ X.length ≤ c ∧ c ≤ 9223372036854775807 ∧ Fz w b X ∧ B ≤ b := by
  obtain ⟨A, c, h1, h2, h3, h4⟩ := h.out
  rcases h4 with h4 | ⟨b, rfl, f, l⟩
  · omega
  · exact ⟨b, c, h1, h2, h3, f, l⟩
theorem RowF.nil (w : World) (B : Nat) (A : Option Addr) (c : Nat) (hc : c ≤ 9223372036854775807) : RowF w B (.slice A 0 c) [] := ⟨A, c, rfl, Nat.zero_le _, hc, .inl rfl⟩
theorem RowF.of {w : World} {B b c : Nat} {X : List Nat} (h : Fz w b X) (hB : B ≤ b) (hc : X.length ≤ c) (hc2 : c ≤ 9223372036854775807) : RowF w B (.slice (some ⟨b, 0, none⟩) X.length c) X := ⟨_, c, rfl, hc, hc2, .inr ⟨b, rfl, h, hB⟩⟩
theorem RowF.far {w : World} {B : Nat} {u : Value} {X : List Nat} (h : RowF w B u X) {p : Addr} (hp : p.block < B) (v : Value) : RowF (w.setCell p v) B u X := by
  obtain ⟨A, c, h1, h2, h3, h4⟩ := h.out
  exact ⟨A, c, h1, h2, h3, h4.imp id fun ⟨b, e, f, l⟩ => ⟨b, e, f.far (by omega) v, l⟩⟩
structure Two (w : World) (B : Nat) (u0 u1 : Value) (X Y : List Nat) : Prop where
  one : RowF w B u0 X
  two : RowF w B u1 Y
  ne : ∀ b b' o o' n n' c c', u0 = .slice (some ⟨b, o, none⟩) n c → u1 = .slice (some ⟨b', o', none⟩) n' c' → 0 < X.length → 0 < Y.length → b ≠ b'
theorem two_of {w w' : World} {B B' : Nat} {u0 u1 : Value} {X Y : List Nat} (h : RowF w B u0 X) (hs : w.heap.size ≤ B') (h' : RowF w' B u0 X) (k : RowF w' B' u1 Y) (hB : B ≤ B') : Two w' B u0 u1 X Y :=
  ⟨h', k.mono hB, fun b b' o o' n n' c c' e e' hx hy => by
    obtain ⟨b1, c1, e1, _, _, f, _⟩ := h.at_ hx
    obtain ⟨b2, c2, e2, _, _, _, l2⟩ := k.at_ hy
    rw [e1] at e; rw [e2] at e'
    cases e; cases e'
    have := f.lt; omega⟩
theorem Two.bel {w w' : World} {B : Nat} {u0 u1 : Value} {X Y : List Nat} (h : Two w B u0 u1 X Y) (g : Bel w w') : Two w' B u0 u1 X Y := ⟨h.one.bel g, h.two.bel g, h.ne⟩
theorem Two.mono {w : World} {B B' : Nat} {u0 u1 : Value} {X Y : List Nat} (h : Two w B u0 u1 X Y) (g : B' ≤ B) : Two w B' u0 u1 X Y := ⟨h.one.mono g, h.two.mono g, h.ne⟩
theorem Two.far {w : World} {B : Nat} {u0 u1 : Value} {X Y : List Nat} (h : Two w B u0 u1 X Y) {p : Addr} (hp : p.block < B) (v : Value) : Two (w.setCell p v) B u0 u1 X Y := ⟨h.one.far hp v, h.two.far hp v, h.ne⟩
theorem RowF.fr {w : World} {B : Nat} {v : Value} {X : List Nat} (h : RowF w B v X) (hm : X.length ≤ 35184372088831) : ∃ A c, v = .slice A X.length c ∧ X.length ≤ c ∧ Fr w A X := by
  obtain ⟨A, c, h1, h2, h3, h4⟩ := h.out
  refine ⟨A, c, h1, h2, ?_⟩
  rcases h4 with h4 | ⟨b, rfl, f, l⟩
  · obtain rfl := List.length_eq_zero_iff.1 h4; exact Fr.nil _ _
  · exact f.fr hm
theorem Fr.news {w : World} {ad : Addr} {X : List Nat} (h : Fr w (some ad) X) : ∃ cs : List Value, cs.length = X.length ∧ (∀ j u, cs[j]? = some u → w.cell? (ad.add j) = some u) ∧ (∀ j u, cs[j]? = some u → Fc u (nthN X j)) := by
  have key : ∀ j, j < X.length → ∃ v, w.cell? (ad.add j) = some v ∧ Fc v (nthN X j) := fun j hj => by
    obtain ⟨ad', v, e, hc, k⟩ := h.cell j hj
    cases e; exact ⟨v, hc, k⟩
  have pick : ∀ n, n ≤ X.length → ∃ cs : List Value, cs.length = n ∧ (∀ j u, cs[j]? = some u → w.cell? (ad.add j) = some u) ∧ (∀ j u, cs[j]? = some u → Fc u (nthN X j)) := by
    intro n
    induction n with
    | zero => exact fun _ => ⟨[], rfl, fun j u hu => by simp at hu, fun j u hu => by simp at hu⟩
    | succ n ih =>
      intro hn
      obtain ⟨cs, h1, h2, h3⟩ := ih (by omega)
      obtain ⟨v, hv, hf⟩ := key n (by omega)
      have app : ∀ j u, (cs ++ [v])[j]? = some u → (cs[j]? = some u) ∨ (j = n ∧ u = v) := fun j u hu => by
        rw [List.getElem?_append] at hu
        split at hu
        · exact .inl hu
        · rename_i hge
          rcases hz : j - cs.length with _ | k
          · rw [hz] at hu; simp at hu; exact .inr ⟨by omega, hu.symm⟩
          · rw [hz] at hu; simp at hu
      refine ⟨cs ++ [v], by simp [h1], fun j u hu => ?_, fun j u hu => ?_⟩
      · rcases app j u hu with q | ⟨rfl, rfl⟩
        · exact h2 j u q
        · exact hv
      · rcases app j u hu with q | ⟨rfl, rfl⟩
        · exact h3 j u q
        · exact hf
  exact pick X.length (Nat.le_refl _)
theorem fc_one {cs : List Value} {X : List Nat} (h : ∀ j u, cs[j]? = some u → Fc u (nthN X j)) : ∀ u ∈ cs, u.oneCell' = true := fun u hu => by
  obtain ⟨j, hj, rfl⟩ := List.getElem_of_mem hu
  obtain ⟨b, e, _⟩ := h j _ (List.getElem?_eq_getElem hj)
  rw [e]; rfl
theorem own_rowF {w : World} {B n : Nat} {v : Value} {cs : List Value} {X : List Nat} (h : Ow.OwnI w B 50 1 v n cs) (hn : X.length = n) (hc : ∀ j u, cs[j]? = some u → Fc u (nthN X j)) : RowF w B v X := by
  subst hn
  have hl := h.out.1
  rcases h.out.2 with ⟨rfl, h0⟩ | ⟨g, cap, cur, rfl, hg, hb, h1, h2, h3, h4⟩
  · exact ⟨none, 0, by rw [h0], by omega, by decide, .inl h0⟩
  · refine ⟨_, cap, rfl, h1, h2, .inr ⟨g, rfl, ⟨cur.toList, ⟨by simpa using hb⟩, fun j hj => ?_⟩, hg⟩⟩
    have hjl : j < cs.length := by omega
    refine ⟨cs[j], ?_, hc j _ (List.getElem?_eq_getElem hjl)⟩
    have : (cur.toList.take (X.length * 1))[j]? = some cs[j] := by rw [h4]; exact List.getElem?_eq_getElem hjl
    rw [List.getElem?_take] at this
    split at this
    · exact this
    · cases this
set_option maxHeartbeats 2000000 in
theorem dClone {A : Option Addr} {n c : Nat} {X : List Nat} (w : World) (h : Fr w A X) (hA : A = none → n = 0) (hl : X.length ≤ 100000) (hn : X.length = n) :
    Calls Tryz.prog 96 #[.slice A n c] w fun e w' => ∃ v, e = .returned v ∧ RowF w' w.heap.size v X ∧ Bel w w' := by
  cases A with
  | none =>
    have h0 := hA rfl
    subst h0
    obtain rfl := List.length_eq_zero_iff.1 hn
    have hnil := fun w => Lib.run_eql_slice_nil (P := Tryz.prog) w 22 50 none 0 c 0 0 Tryz.underlying22
    go_enter Tryz.func96, Tryz.ntmps96
    go_wp2
    go_ret
    exact ⟨_, rfl, RowF.nil _ _ _ _ (by decide), Bel.refl _⟩
  | some ad =>
    subst hn
    have hnil := fun w => Lib.run_eql_slice_nil (P := Tryz.prog) w 22 50 (some ad) X.length c 0 0 Tryz.underlying22
    obtain ⟨cs, k1, k2, k3⟩ := Fr.news h
    have K1 := Ho.mk k1
    have K2 := Ho.mk k2
    have K3 := Ho.mk k3
    clear k1 k2 k3 h
    go_enter Tryz.func96, Tryz.ntmps96
    go_wp2_with (at_builtin; (with_reducible refine wpList_apps _ rfl (.tmp 5) (.tmp 6) 22 rfl w.heap.size 50 (.float .f64 0) 8 Tryz.underlying22 infoF rfl _ 0 [] rfl (Ow.OwnI.lit _ _ (Nat.le_refl _)) ad X.length c cs rfl K1.out (fun j u hu => ((Bel.refl w).alloc _).cell (K2.out j u hu)) (fc_one K3.out) (by omega) (by omega) (by simp) ?_); intro v w1 hv hb)
    go_ret
    have hv' := Ow.OwnI.mk hv.out
    rw [Nat.zero_add, List.nil_append] at hv'
    exact ⟨v, rfl, own_rowF hv' rfl K3.out, ⟨((Below.refl _ w).alloc (Nat.le_refl _) _).trans hb⟩⟩
end Go.Proofs.YtnbdoidccacdnaaGreatDoor.W5
namespace Go.Proofs.YtnbdoidccacdnaaGreatDoor.Pa
open Ieee Go Go.RowKit Go.Proofs Go.Proofs.YtnbdoidccacdnaaGreatDoor Ow Dt Gp W0 S4 P0 M0 M1 M3 W4 W5 W1 W2
attribute [local go_sem ↓] Go.wp_at_zero Go.wp_at_succ
def upMap (g : Nat → Nat) (X : List Nat) (i : Nat) : List Nat := (X.take i).map g ++ X.drop i
theorem upMap_len (g : Nat → Nat) (X : List Nat) {i : Nat} (h : i ≤ X.length) : (upMap g X i).length = X.length := by simp [upMap]; omega
theorem upMap_all (g : Nat → Nat) (X : List Nat) : upMap g X X.length = X.map g := by simp [upMap]
theorem upMap_zero (g : Nat → Nat) (X : List Nat) : upMap g X 0 = X := by simp [upMap]
theorem upMap_at (g : Nat → Nat) (X : List Nat) {i : Nat} (h : i < X.length) : nthN (upMap g X i) i = nthN X i := by
  simp [upMap, nthN, List.getD_eq_getElem?_getD, List.getElem?_append, Nat.min_eq_left (Nat.le_of_lt h)]
theorem upMap_set (g : Nat → Nat) (X : List Nat) {i : Nat} (h : i < X.length) : (upMap g X i).set i (g (nthN X i)) = upMap g X (i + 1) := by
  apply List.ext_getElem (by simp [upMap]; omega)
  intro j h1 h2
  rw [List.getElem_set]
  have hx : nthN X i = X[i] := nthN_lt h
  by_cases e : i = j
  · subst e
    simp [upMap, List.getElem_append, hx]; omega
  · simp only [if_neg e, upMap, List.getElem_append, List.length_map, List.length_take, List.getElem_map, List.getElem_take, List.getElem_drop]
    by_cases q : j < i
    · rw [dif_pos (by omega), dif_pos (by omega)]
    · rw [dif_neg (by omega), dif_neg (by omega)]
      congr 1; omega
theorem dOpp {r : Nat} (w : World) (hr : r < 2 * sgnW) : Calls Tryz.prog 54 #[.float .f64 r] w (TellsC w (fng (cn r))) := by
  have HR := Ho.mk hr
  clear hr
  go_enter Tryz.func54, Tryz.ntmps54
  go_wp2
  go_ret
  exact ⟨_, rfl, fng_lt' HR.out, neg_cn HR.out, Bel.refl _⟩
theorem dShare {r s : Nat} (w : World) (hr : r < 2 * sgnW) (hs : s < 2 * sgnW) : Calls Tryz.prog 57 #[.float .f64 s, .float .f64 r] w (TellsC w (fmul (cn r) (cn s))) := by
  have M := Ho.mk (fun w => dOMul w hr hs)
  clear hr hs
  go_enter Tryz.func57, Tryz.ntmps57
  go_wp2_with (go_at_call 108; (with_reducible refine (M.out _).mono ?_); rintro e w1 ⟨r1, rfl, l1, c1, b1⟩)
  go_ret
  exact ⟨r1, rfl, l1, c1, b1⟩
set_option maxRecDepth 100000 in
set_option maxHeartbeats 16000000 in
theorem dEachO {b n c : Nat} {X : List Nat} (W0 : World) (KX : Fz W0 b X) (hX : X.length = n) (hm : n ≤ 100000) :
    Calls Tryz.prog 53 #[.slice (some ⟨b, 0, none⟩) n c, .func (.func 54) #[] #[]] W0
      fun e w' => e = .returned (.tuple #[]) ∧ Fz w' b (X.map (fng)) ∧ Gr b W0 w' := by
  subst hX
  have K1 := Ho.mk KX
  have OP := Ho.mk (fun (w : World) (r : Nat) (h : r < 2 * sgnW) => dOpp w h)
  clear KX
  go_enter Tryz.func53, Tryz.ntmps53
  go_wp2_with fail
  go_loopw [8] (fun v wr => ∃ (i : Nat), i ≤ X.length ∧ v = .int .i64 i ∧ Ho (Fz wr b (upMap (fng) X i)) ∧ Ho (Gr b W0 wr)) (fun v _ => X.length - (intOf v).toNat)
  case atStart => exact ⟨0, Nat.zero_le _, rfl, ⟨by rw [upMap_zero]; exact K1.out⟩, ⟨Gr.refl _ _⟩⟩
  case round =>
    obtain ⟨i, hi, rfl, FK, HW⟩ := hrel
    rcases Nat.lt_or_ge i X.length with hlt | hge
    · obtain ⟨r, y0, rl, rc⟩ := FK.out.at_ (i := i) (by rw [upMap_len _ _ hi]; exact hlt)
      rw [upMap_at _ _ hlt] at rc
      have HR := Ho.mk (And.intro rl rc)
      clear rl rc
      go_wp2_with (first | (go_at_call 54; (with_reducible refine (OP.out _ _ HR.out.1).mono ?_); rintro e w1 ⟨r1, rfl, l1, c1, b1⟩; have FB := Ho.mk (FK.out.bel b1); have HW1 := Ho.mk (HW.out.trans (b1.gr b)); have HC := Ho.mk (And.intro l1 c1); obtain ⟨_, y1, _, _⟩ := FB.out.at_ (i := i) (by rw [upMap_len _ _ hi]; exact hlt); have z1 := FB.out.free i; clear l1 c1 b1) | fail)
      go_roundw
      case rel =>
        refine ⟨i + 1, by omega, by simp, ⟨?_⟩, ⟨HW1.out.set i _⟩⟩
        have := FB.out.set i HC.out.1 HC.out.2
        rw [HR.out.2, upMap_set (fng) X hlt] at this
        exact this
      case measure => simp [intOf]; omega
    · obtain rfl : i = X.length := by omega
      rw [upMap_all] at FK
      go_wp2
      go_end0
      exact ⟨rfl, FK.out, HW.out⟩
set_option maxRecDepth 100000 in
set_option maxHeartbeats 16000000 in
theorem dEachS {b n c s : Nat} {X : List Nat} (W0 : World) (KX : Fz W0 b X) (hX : X.length = n) (hm : n ≤ 100000) (hs : s < 2 * sgnW) :
    Calls Tryz.prog 53 #[.slice (some ⟨b, 0, none⟩) n c, .func (.func 57) #[.float .f64 s] #[]] W0
      fun e w' => e = .returned (.tuple #[]) ∧ Fz w' b (X.map (fun x => fmul x (cn s))) ∧ Gr b W0 w' := by
  subst hX
  have K1 := Ho.mk KX
  have OP := Ho.mk (fun (w : World) (r : Nat) (h : r < 2 * sgnW) => dShare w h hs)
  clear KX
  go_enter Tryz.func53, Tryz.ntmps53
  go_wp2_with fail
  go_loopw [8] (fun v wr => ∃ (i : Nat), i ≤ X.length ∧ v = .int .i64 i ∧ Ho (Fz wr b (upMap (fun x => fmul x (cn s)) X i)) ∧ Ho (Gr b W0 wr)) (fun v _ => X.length - (intOf v).toNat)
  case atStart => exact ⟨0, Nat.zero_le _, rfl, ⟨by rw [upMap_zero]; exact K1.out⟩, ⟨Gr.refl _ _⟩⟩
  case round =>
    obtain ⟨i, hi, rfl, FK, HW⟩ := hrel
    rcases Nat.lt_or_ge i X.length with hlt | hge
    · obtain ⟨r, y0, rl, rc⟩ := FK.out.at_ (i := i) (by rw [upMap_len _ _ hi]; exact hlt)
      rw [upMap_at _ _ hlt] at rc
      have HR := Ho.mk (And.intro rl rc)
      clear rl rc
      go_wp2_with (first | (go_at_call 57; (with_reducible refine (OP.out _ _ HR.out.1).mono ?_); rintro e w1 ⟨r1, rfl, l1, c1, b1⟩; have FB := Ho.mk (FK.out.bel b1); have HW1 := Ho.mk (HW.out.trans (b1.gr b)); have HC := Ho.mk (And.intro l1 c1); obtain ⟨_, y1, _, _⟩ := FB.out.at_ (i := i) (by rw [upMap_len _ _ hi]; exact hlt); have z1 := FB.out.free i; clear l1 c1 b1) | fail)
      go_roundw
      case rel =>
        refine ⟨i + 1, by omega, by simp, ⟨?_⟩, ⟨HW1.out.set i _⟩⟩
        have := FB.out.set i HC.out.1 HC.out.2
        rw [HR.out.2, upMap_set (fun x => fmul x (cn s)) X hlt] at this
        exact this
      case measure => simp [intOf]; omega
    · obtain rfl : i = X.length := by omega
      rw [upMap_all] at FK
      go_wp2
      go_end0
      exact ⟨rfl, FK.out, HW.out⟩
theorem dEach0 {A : Option Addr} {c : Nat} {f : Value} (W0 : World) :
    Calls Tryz.prog 53 #[.slice A 0 c, f] W0 fun e w' => e = .returned (.tuple #[]) ∧ W0 = w' := by
  go_enter Tryz.func53, Tryz.ntmps53
  go_wp2_with fail
  refine wp_loop_rounds 1 ?_
  rw [rounds_succ]
  go_wp2
  go_end0
  exact ⟨rfl, rfl⟩
end Go.Proofs.YtnbdoidccacdnaaGreatDoor.Pa
namespace Go.Proofs.YtnbdoidccacdnaaGreatDoor.Pb
open Ieee Go Go.RowKit Go.Extern.Stop Go.Stop Go.Extern Go.Proofs Go.Proofs.YtnbdoidccacdnaaGreatDoor Ow Dt
attribute [local go_sem ↓] Go.wp_at_zero Go.wp_at_succ
theorem isTypeOf (v : Value) (w : World) : (Extern.ReflectliteType.typeOf #[.iface 27 v]).run Tryz.prog w = .ok (.iface 160 (.agg #[.pointer (some ⟨3, 27, none⟩)])) w := by kernel_rfl
theorem isComparable (w : World) : (callFunc 287 #[.agg #[.pointer (some ⟨3, 27, none⟩)]]).run Tryz.prog w = .ok (.value (.bool true)) w := by
  rw [run_callFunc_extern (e := Extern.ReflectliteType.method fun t => do Extern.Rtype.noPackHeld "Comparable" t; pure (.bool (← typeInfo t).comparable)) Tryz.func287 rfl rfl rfl rfl]; kernel_rfl
theorem isMethod (n : Nat) (v : Value) (w : World) : (Go.method (n + 1) 160 v "Comparable").run Tryz.prog w = .ok (287, v) w := by kernel_rfl
theorem eqErr (w : World) : (binOp .eql 68 (.iface 27 (.int .i64 2)) (.iface 27 (.int .i64 2))).run Tryz.prog w = .ok (.bool true) w := by kernel_rfl
theorem neErr (w : World) : (binOp .eql 68 .nilIface (.iface 27 (.int .i64 2))).run Tryz.prog w = .ok (.bool false) w := by kernel_rfl
theorem isNil (w : World) : Calls Tryz.prog 56 #[.nilIface, .iface 27 (.int .i64 2)] w fun e w' => e = .returned (.bool false) ∧ w' = w := by
  have hn := neErr w
  have hn2 := run_eql_iface_nil_left (P := Tryz.prog) w 27 (.int .i64 2) Tryz.underlying68
  go_enter Tryz.func56, Tryz.ntmps56
  go_wp2
  go_ret
  exact ⟨rfl, rfl⟩
set_option maxRecDepth 100000 in
set_option maxHeartbeats 4000000 in
theorem isSame (w : World) : Calls Tryz.prog 56 #[.iface 27 (.int .i64 2), .iface 27 (.int .i64 2)] w fun e w' => e = .returned (.bool true) ∧ w' = w := by
  have h8 := @run_callFunc_extern Tryz.prog 106 _ Extern.ReflectliteType.typeOf Tryz.func106 (by kernel_rfl) (by kernel_rfl) (by kernel_rfl) (by kernel_rfl)
  have tT := isTypeOf
  have cT := isComparable
  have mR := isMethod
  have heq := eqErr w
  go_enter Tryz.func56, Tryz.ntmps56
  go_wp2
  refine wp_loop_rounds 1 ?_
  rw [rounds_succ]
  go_wp2
  go_ret
  exact ⟨rfl, rfl⟩
end Go.Proofs.YtnbdoidccacdnaaGreatDoor.Pb
namespace Go.Proofs.YtnbdoidccacdnaaGreatDoor.Pc
open Ieee Go Go.RowKit Go.Proofs Go.Proofs.YtnbdoidccacdnaaGreatDoor Ow Dt Gp U0 W0 S4 S6 P0 M0 M1 M2 M3 P4 P5 P6 P8 Pa Pb W4 W5 W1 W2
attribute [local go_sem ↓] Go.wp_at_zero Go.wp_at_succ
def intoN (p : Nat) (st : List Nat × List Nat) : List Nat × List Nat := intoG opsN (bitsG p) p (tabW p) st
def invN (p : Nat) (st : List Nat × List Nat) : List Nat × List Nat :=
  let r := intoN p (st.1, st.2.map fng)
  (r.1.map fun x => fmul x (P2 (1023 - p)), (r.2.map fun x => fmul x (P2 (1023 - p))).map fng)
theorem intoN_len {p : Nat} {st : List Nat × List Nat} (h1 : st.1.length = 2 ^ p) (h2 : st.2.length = 2 ^ p) : (intoN p st).1.length = 2 ^ p ∧ (intoN p st).2.length = 2 ^ p := by
  refine stages_len opsN (fun q k => tabW p (k * 2 ^ (p - (q + 1)))) (st := (swapG opsN (bitsG p) st.1, swapG opsN (bitsG p) st.2)) ?_ ?_ (Nat.le_refl p)
  · rw [swapG_len]; exact h1
  · rw [swapG_len]; exact h2
theorem conv_ok : ∀ p : Fin 8, floatOfInt .f64 ((2 ^ p.val : Nat) : Int) = P2 (1023 + p.val) ∧ floatBits .quo .f64 4607182418800017408 (P2 (1023 + p.val)) = some (P2 (1023 - p.val)) ∧ P2 (1023 - p.val) < 2 * sgnW ∧ cn (P2 (1023 - p.val)) = P2 (1023 - p.val) := by decide +kernel
set_option maxRecDepth 100000 in
set_option maxHeartbeats 16000000 in
theorem dInvInto {p N c c' b b' : Nat} {X Y : List Nat} (W0 : World) (T : Tab W0) (KX : Fz W0 b X) (KY : Fz W0 b' Y) (hb : b ≠ b') (hN : N = 2 ^ p) (hX : X.length = N) (hY : Y.length = N) (hp7 : p ≤ 7) (hc : N ≤ c) (hc' : N ≤ c') (hC : c ≤ 9223372036854775807) (hC' : c' ≤ 9223372036854775807) :
    Calls Tryz.prog 20 #[.agg #[.slice (some ⟨b, 0, none⟩) N c, .slice (some ⟨b', 0, none⟩) N c']] W0
      fun e w' => e = .returned (.int .i64 0) ∧ Fz w' b (invN p (X, Y)).1 ∧ Fz w' b' (invN p (X, Y)).2 ∧ Gr2 b b' W0 w' := by
  have hpos : 0 < N := by rw [hN]; exact Nat.two_pow_pos p
  have h128 : N ≤ 128 := by rw [hN]; exact Nat.le_trans (Nat.pow_le_pow_right (by decide) hp7) (by decide)
  have b2 := tab_ne T KX (by omega)
  have b2' := tab_ne T KY (by omega)
  obtain ⟨cv1, cv2, cv3, cv4⟩ := conv_ok ⟨p, by omega⟩
  dsimp only at cv1 cv2 cv3 cv4
  rw [← hN] at cv1
  have CV3 := Ho.mk cv3
  have CV4 := Ho.mk cv4
  have hq := fun (t : TypeId) (w : World) => run_float_arith (P := Tryz.prog) w .quo t .f64 _ _ _ cv2
  have lb := KX.lt
  have lb' := KY.lt
  have T0 := Ho.mk T
  have F1 := Ho.mk KX
  have F2 := Ho.mk KY
  have HN := Ho.mk hN
  have HX := Ho.mk hX
  have HY := Ho.mk hY
  have KV0 := Ho.mk (Blk.new W0 [.slice (some ⟨b, 0, none⟩) N c, .slice (some ⟨b', 0, none⟩) N c'] 24)
  have g0 := Ho.mk ((Bel.refl W0).alloc (.cells #[.slice (some ⟨b, 0, none⟩) N c, .slice (some ⟨b', 0, none⟩) N c'] 24))
  clear T KX KY hN hX hY cv2 cv3 cv4
  go_enter Tryz.func20, Tryz.ntmps20
  go_upto_region 1 with fail
  have F1 := Ho.mk (F1.out.bel g0.out)
  have F2 := Ho.mk (F2.out.bel g0.out)
  have T1 := Ho.mk (T0.out.bel g0.out)
  have G0 := Ho.mk (gr2_bel g0.out b b')
  generalize W0.alloc (.cells #[.slice (some ⟨b, 0, none⟩) N c, .slice (some ⟨b', 0, none⟩) N c'] 24) = W at *
  have y1 := KV0.out.cell (i := 1) rfl
  have E1 := Ho.mk (dEachO (n := N) (c := c') W F2.out HY.out (by omega))
  go_wp2_with fail
  (with_reducible refine E1.out.mono ?_); rintro e w1 ⟨rfl, f1, G1⟩
  have F2 := Ho.mk f1
  have F1 := Ho.mk (gr_fz G1 F1.out hb)
  have GX := Ho.mk (Gr2.of2 (b := b) G1)
  have G0 := Ho.mk (G0.out.trans GX.out)
  have T1 := Ho.mk (GX.out.tab T1.out b2 b2')
  clear f1 G1 E1 y1 g0
  have KV := Ho.mk (GX.out.blk KV0.out (by omega) (by omega))
  have y0 := KV.out.cell (i := 0) rfl
  have y1 := KV.out.cell (i := 1) rfl
  have IN := Ho.mk (dInto (p := p) (N := N) (c := c) (c' := c') w1 T1.out F1.out F2.out hb HN.out HX.out (by rw [List.length_map]; exact HY.out) hp7 hc hc' hC hC')
  go_wp2_with fail
  (with_reducible refine IN.out.mono ?_); rintro e w2 ⟨rfl, f1, f2, G2⟩
  have LN := Ho.mk (intoN_len (p := p) (st := (X, Y.map fng)) (by rw [← HN.out]; exact HX.out) (by rw [← HN.out, List.length_map]; exact HY.out))
  have F1 : Ho (Fz w2 b (intoN p (X, Y.map fng)).1) := ⟨f1⟩
  have F2 : Ho (Fz w2 b' (intoN p (X, Y.map fng)).2) := ⟨f2⟩
  have G0 := Ho.mk (G0.out.trans G2)
  have GX := Ho.mk (GX.out.trans G2)
  obtain ⟨st, hst⟩ : ∃ st, st = intoN p (X, Y.map fng) := ⟨_, rfl⟩
  rw [← hst] at F1 F2 LN
  have HST := Ho.mk hst
  rw [← HN.out] at LN
  clear f1 f2 G2 IN hst y0 y1
  have KV := Ho.mk (GX.out.blk KV0.out (by omega) (by omega))
  have y0 := KV.out.cell (i := 0) rfl
  have y1 := KV.out.cell (i := 1) rfl
  go_wp2_with (go_at_call 56; (with_reducible refine (isNil _).mono ?_); rintro e w3 ⟨rfl, rfl⟩)
  have S1 := Ho.mk (dEachS (n := N) (c := c) w3 F1.out LN.out.1 (by omega) CV3.out)
  (with_reducible refine S1.out.mono ?_); rintro e w4 ⟨rfl, f1, G1⟩
  rw [CV4.out] at f1
  have F1 := Ho.mk f1
  have F2 := Ho.mk (gr_fz G1 F2.out (Ne.symm hb))
  have GX := Ho.mk (GX.out.trans (Gr2.of1 G1))
  have G0 := Ho.mk (G0.out.trans (Gr2.of1 G1))
  clear f1 G1 S1 y0 y1
  have KV := Ho.mk (GX.out.blk KV0.out (by omega) (by omega))
  have y0 := KV.out.cell (i := 0) rfl
  have y1 := KV.out.cell (i := 1) rfl
  have S2 := Ho.mk (dEachS (n := N) (c := c') w4 F2.out LN.out.2 (by omega) CV3.out)
  go_wp2_with fail
  (with_reducible refine S2.out.mono ?_); rintro e w5 ⟨rfl, f2, G1⟩
  rw [CV4.out] at f2
  have F2 := Ho.mk f2
  have F1 := Ho.mk (gr_fz G1 F1.out hb)
  have GX := Ho.mk (GX.out.trans (Gr2.of2 G1))
  have G0 := Ho.mk (G0.out.trans (Gr2.of2 G1))
  clear f2 G1 S2 y0 y1
  have KV := Ho.mk (GX.out.blk KV0.out (by omega) (by omega))
  have y0 := KV.out.cell (i := 0) rfl
  have y1 := KV.out.cell (i := 1) rfl
  have S3 := Ho.mk (dEachO (n := N) (c := c') w5 F2.out (by rw [List.length_map]; exact LN.out.2) (by omega))
  go_wp2_with fail
  (with_reducible refine S3.out.mono ?_); rintro e w6 ⟨rfl, f2, G1⟩
  have F2 := Ho.mk f2
  have F1 := Ho.mk (gr_fz G1 F1.out hb)
  have G0 := Ho.mk (G0.out.trans (Gr2.of2 G1))
  clear f2 G1 S3 y0 y1
  go_wp2
  go_ret
  refine ⟨rfl, ?_, ?_, G0.out⟩
  · unfold invN; rw [← HST.out]; exact F1.out
  · unfold invN; rw [← HST.out]; exact F2.out
end Go.Proofs.YtnbdoidccacdnaaGreatDoor.Pc
namespace Go.Proofs.YtnbdoidccacdnaaGreatDoor.Pe
open Ieee Go Go.RowKit Go.Proofs Go.Proofs.YtnbdoidccacdnaaGreatDoor Ow Dt Gp G9 U0 W0 S4 S6 P0 M0 M1 M2 M3 P4 P5 P6 P8 Pa Pb W4 W5 W1 W2 Pc
attribute [local go_sem ↓] Go.wp_at_zero Go.wp_at_succ
def Bad (n m : Nat) : Prop := ¬ (n = m ∧ 0 ≤ logI n)
theorem fng_fngC {x : Nat} (h : x < 2 * sgnW) (hc : cn x = x) : fng (fng x) = x := by
  rcases cls h hc with q | q | rfl
  · exact fng_fng q
  · have hx := (word_split h).1
    rw [q] at hx
    have e := xor_top' x h
    rw [q] at e
    have e2 : fng x = double.word (!fneg x) infR := by
      unfold fng; rw [e, word_parts _ (Nat.le_refl _), if_neg (by decide)]
    have e3 : fng (double.word (!fneg x) infR) = double.word (fneg x) infR := by
      unfold fng
      rw [neg_word _ infR_lt, Bool.not_not, word_parts _ (Nat.le_refl _), if_neg (by decide)]
    rw [e2, e3]; exact hx.symm
  · decide
def Cl (X : List Nat) : Prop := ∀ x ∈ X, x < 2 * sgnW ∧ cn x = x
theorem fng_row {X : List Nat} (h : Cl X) : (X.map fng).map fng = X := by
  rw [List.map_map]
  conv => rhs; rw [← List.map_id X]
  exact List.map_congr_left fun x hx => fng_fngC (h x hx).1 (h x hx).2
theorem Fz.cl {w : World} {b : Nat} {X : List Nat} (h : Fz w b X) : Cl X := fun x hx => by
  obtain ⟨i, hi, rfl⟩ := List.getElem_of_mem hx
  obtain ⟨r, _, h1, h2⟩ := h.at_ hi
  rw [nthN_lt hi] at h2
  rw [← h2]; exact ⟨cn_lt h1, cn_idem r⟩
theorem Fr.cl {w : World} {A : Option Addr} {X : List Nat} (h : Fr w A X) : Cl X := fun x hx => by
  obtain ⟨i, hi, rfl⟩ := List.getElem_of_mem hx
  obtain ⟨ad, r, _, _, h1, h2⟩ := h.at_ hi
  rw [nthN_lt hi] at h2
  rw [← h2]; exact ⟨cn_lt h1, cn_idem r⟩
set_option maxRecDepth 100000 in
set_option maxHeartbeats 16000000 in
theorem dIntoBad {n m c c' : Nat} {A B : Option Addr} (W0 : World) (T : Tab W0) (hn : n < 1100) (hm : m < 1100) (hbad : Bad n m) :
    Calls Tryz.prog 55 #[.agg #[.slice A n c, .slice B m c']] W0 fun e w' => e = .returned (.int .i64 2) ∧ Bel W0 w' := by
  have RI := Ho.mk (fun w (g : Bel W0 w) => (by
    have h := dRightV (n := n) (m := m) (c := c) (c' := c') (A := A) (B := B) w (T.bel g) hn hm
    rw [decide_eq_false hbad] at h; exact h : Calls Tryz.prog 99 #[.agg #[.slice A n c, .slice B m c']] w (fun e w' => e = .returned (.bool false) ∧ Bel w w')))
  have KV := Ho.mk (Blk.new W0 [.slice A n c, .slice B m c'] 24)
  have g0 := Ho.mk ((Bel.refl W0).alloc (.cells #[.slice A n c, .slice B m c'] 24))
  clear T hbad
  go_enter Tryz.func55, Tryz.ntmps55
  go_upto_region 1 with fail
  generalize W0.alloc (.cells #[.slice A n c, .slice B m c'] 24) = W at *
  have y0 := KV.out.cell (i := 0) rfl
  have y1 := KV.out.cell (i := 1) rfl
  go_wp2_with (go_at_call 99; (with_reducible refine (RI.out _ g0.out).mono ?_); rintro e w1 ⟨rfl, b1⟩)
  go_ret
  exact ⟨rfl, g0.out.trans b1⟩
set_option maxRecDepth 100000 in
set_option maxHeartbeats 16000000 in
theorem dInvBad1 {n m c c' b' : Nat} {A : Option Addr} {Y : List Nat} (W0 : World) (T : Tab W0) (KY : Fz W0 b' Y) (hY : Y.length = m) (hm0 : 0 < m) (hn : n < 1100) (hm : m < 1100) (hbad : Bad n m) :
    Calls Tryz.prog 20 #[.agg #[.slice A n c, .slice (some ⟨b', 0, none⟩) m c']] W0 fun e w' => e = .returned (.int .i64 2) ∧ Fz w' b' Y ∧ Gr b' W0 w' := by
  have b2 := tab_ne T KY (by omega)
  have CY := Ho.mk (fng_row (Fz.cl KY))
  have lb := KY.lt
  have F2 := Ho.mk KY
  have HY := Ho.mk hY
  have T0 := Ho.mk T
  have HB := Ho.mk hbad
  have KV0 := Ho.mk (Blk.new W0 [.slice A n c, .slice (some ⟨b', 0, none⟩) m c'] 24)
  have g0 := Ho.mk ((Bel.refl W0).alloc (.cells #[.slice A n c, .slice (some ⟨b', 0, none⟩) m c'] 24))
  clear T hbad KY hY
  go_enter Tryz.func20, Tryz.ntmps20
  go_upto_region 1 with fail
  have T1 := Ho.mk (T0.out.bel g0.out)
  have F2 := Ho.mk (F2.out.bel g0.out)
  generalize W0.alloc (.cells #[.slice A n c, .slice (some ⟨b', 0, none⟩) m c'] 24) = W at *
  have y1 := KV0.out.cell (i := 1) rfl
  have E1 := Ho.mk (dEachO (n := m) (c := c') W F2.out HY.out (by omega))
  go_wp2_with fail
  (with_reducible refine E1.out.mono ?_); rintro e w1 ⟨rfl, f1, G1⟩
  have F2 := Ho.mk f1
  have T1 : Ho (Tab w1) := ⟨⟨fun i hi => by have := T1.out.cell i hi; unfold World.cell? at this ⊢; rw [G1.block 2 (I4.Tab.lt T1.out) b2]; exact this⟩⟩
  have KV := Ho.mk (G1.blk KV0.out (by omega))
  have G0 := Ho.mk ((g0.out.gr b').trans G1)
  clear f1 G1 E1 y1
  have y0 := KV.out.cell (i := 0) rfl
  have y1 := KV.out.cell (i := 1) rfl
  have IN := Ho.mk (dIntoBad (n := n) (m := m) (c := c) (c' := c') (A := A) (B := some ⟨b', 0, none⟩) w1 T1.out hn hm HB.out)
  go_wp2_with fail
  (with_reducible refine IN.out.mono ?_); rintro e w2 ⟨rfl, bz⟩
  have KV := Ho.mk (KV.out.bel bz)
  have G0 := Ho.mk (G0.out.trans (bz.gr b'))
  have F2 := Ho.mk (F2.out.bel bz)
  clear bz y0 y1 IN
  have y1 := KV.out.cell (i := 1) rfl
  have E2 := Ho.mk (dEachO (n := m) (c := c') w2 F2.out (by rw [List.length_map]; exact HY.out) (by omega))
  go_wp2_with (go_at_call 56; (with_reducible refine (isSame _).mono ?_); rintro e w3 ⟨rfl, rfl⟩)
  (with_reducible refine (E2.out).mono ?_); rintro e w4 ⟨rfl, f4, G4⟩
  go_wp2
  go_ret
  rw [CY.out] at f4
  exact ⟨rfl, f4, G0.out.trans G4⟩
set_option maxRecDepth 100000 in
set_option maxHeartbeats 16000000 in
theorem dInvBad0 {n c c' : Nat} {A B : Option Addr} (W0 : World) (T : Tab W0) (hn : n < 1100) (hbad : Bad n 0) :
    Calls Tryz.prog 20 #[.agg #[.slice A n c, .slice (B) 0 c']] W0 fun e w' => e = .returned (.int .i64 2) ∧ Bel W0 w' := by
  have hm : (0 : Nat) < 1100 := by decide
  have T0 := Ho.mk T
  have HB := Ho.mk hbad
  have KV0 := Ho.mk (Blk.new W0 [.slice A n c, .slice (B) 0 c'] 24)
  have g0 := Ho.mk ((Bel.refl W0).alloc (.cells #[.slice A n c, .slice (B) 0 c'] 24))
  clear T hbad
  go_enter Tryz.func20, Tryz.ntmps20
  go_upto_region 1 with fail
  have T1 := Ho.mk (T0.out.bel g0.out)
  generalize W0.alloc (.cells #[.slice A n c, .slice (B) 0 c'] 24) = W at *
  have y1 := KV0.out.cell (i := 1) rfl
  go_wp2_with fail
  (with_reducible refine (dEach0 W).mono ?_); rintro e w1 ⟨rfl, rfl⟩
  have KV := KV0
  have G0 := g0
  clear y1
  have y0 := KV.out.cell (i := 0) rfl
  have y1 := KV.out.cell (i := 1) rfl
  have IN := Ho.mk (dIntoBad (n := n) (m := 0) (c := c) (c' := c') (A := A) (B := B) W T1.out hn hm HB.out)
  go_wp2_with fail
  (with_reducible refine IN.out.mono ?_); rintro e w2 ⟨rfl, bz⟩
  have KV := Ho.mk (KV.out.bel bz)
  have G0 := Ho.mk (G0.out.trans bz)
  clear bz y0 y1 IN
  have y1 := KV.out.cell (i := 1) rfl
  go_wp2_with (go_at_call 56; (with_reducible refine (isSame _).mono ?_); rintro e w3 ⟨rfl, rfl⟩)
  (with_reducible refine (dEach0 _).mono ?_); rintro e w4 ⟨rfl, rfl⟩
  go_wp2
  go_ret
  exact ⟨rfl, G0.out⟩
end Go.Proofs.YtnbdoidccacdnaaGreatDoor.Pe
namespace Go.Proofs.YtnbdoidccacdnaaGreatDoor.Pg
open Ieee Go Go.RowKit Go.Proofs Go.Proofs.YtnbdoidccacdnaaGreatDoor Ow Dt Gp I0 U0 W0 S4 S6 P0 M0 M1 M2 M3 P4 P5 P6 P8 Pa Pb W4 W5 W1 W2 Pc Pe
attribute [local go_sem ↓] Go.wp_at_zero Go.wp_at_succ
structure In (w : World) (v : Value) (X : List Nat) : Prop where
  out : ∃ A c, v = .slice A X.length c ∧ X.length ≤ c ∧ c ≤ 9223372036854775807 ∧ Fr w A X ∧ (A = none → X.length = 0)
theorem In.bel {w w' : World} {v : Value} {X : List Nat} (h : In w v X) (g : Bel w w') : In w' v X := by
  obtain ⟨A, c, h1, h2, h3, h4, h5⟩ := h.out
  exact ⟨A, c, h1, h2, h3, h4.bel g, h5⟩
theorem RowF.inn {w : World} {B : Nat} {v : Value} {X : List Nat} (h : RowF w B v X) (hm : X.length ≤ 35184372088831) : In w v X := by
  obtain ⟨A, c, h1, h2, h3, h4⟩ := h.out
  refine ⟨A, c, h1, h2, h3, ?_, fun e => ?_⟩
  · rcases h4 with h4 | ⟨b, rfl, f, l⟩
    · obtain rfl := List.length_eq_zero_iff.1 h4; exact Fr.nil _ _
    · exact f.fr hm
  · rcases h4 with h4 | ⟨b, rfl, f, l⟩
    · exact h4
    · cases e
theorem In.cl {w : World} {v : Value} {X : List Nat} (h : In w v X) : Cl X := by
  obtain ⟨A, c, h1, h2, h3, h4, h5⟩ := h.out
  exact Fr.cl h4
theorem dCloneI {v : Value} {X : List Nat} (w : World) (h : In w v X) (hl : X.length ≤ 100000) :
    Calls Tryz.prog 96 #[v] w fun e w' => ∃ u, e = .returned u ∧ RowF w' w.heap.size u X ∧ Bel w w' := by
  obtain ⟨A, c, rfl, h2, h3, h4, h5⟩ := h.out
  exact dClone w h4 h5 hl rfl
def MakesV (W0 : World) (X Y : List Nat) (e : Ending) (w' : World) : Prop := ∃ A c B c', e = .returned (.agg #[.slice A X.length c, .slice B Y.length c']) ∧ Two w' W0.heap.size (.slice A X.length c) (.slice B Y.length c') X Y ∧ Bel W0 w'
set_option maxRecDepth 100000 in
set_option maxHeartbeats 16000000 in
theorem dOwn {A B : Option Addr} {c c' : Nat} {X Y : List Nat} (w : World) (hx : In w (.slice A X.length c) X) (hy : In w (.slice B Y.length c') Y) (hl : X.length ≤ 100000) (hl' : Y.length ≤ 100000) :
    Calls Tryz.prog 51 #[.agg #[.slice A X.length c, .slice B Y.length c']] w (MakesV w X Y) := by
  have KV := Ho.mk ((Blk.new w [.slice A X.length c, .slice B Y.length c'] 24).old (.cells #[.slice none 0 0, .slice none 0 0] 24))
  have KR := Ho.mk (Blk.new (w.alloc (.cells #[.slice A X.length c, .slice B Y.length c'] 24)) [.slice none 0 0, .slice none 0 0] 24)
  have g0 := Ho.mk (((Bel.refl w).alloc (.cells #[.slice A X.length c, .slice B Y.length c'] 24)).alloc (.cells #[.slice none 0 0, .slice none 0 0] 24))
  rw [World.size_alloc] at KR
  go_enter Tryz.func51, Tryz.ntmps51
  go_wp2_with fail
  have hs : w.heap.size + 1 < ((w.alloc (.cells #[.slice A X.length c, .slice B Y.length c'] 24)).alloc (.cells #[.slice none 0 0, .slice none 0 0] 24)).heap.size := by simp only [World.size_alloc]; omega
  generalize (w.alloc (.cells #[.slice A X.length c, .slice B Y.length c'] 24)).alloc (.cells #[.slice none 0 0, .slice none 0 0] 24) = W at *
  have C0 := Ho.mk (fun w' (g : Bel w w') => dCloneI w' (hx.bel g) hl)
  have C1 := Ho.mk (fun w' (g : Bel w w') => dCloneI w' (hy.bel g) hl')
  obtain ⟨bR, hbR⟩ : ∃ bR, bR = w.heap.size + 1 := ⟨_, rfl⟩
  have le_bR : w.heap.size ≤ bR := by omega
  rw [← hbR] at KR hs ⊢
  have HS := Ho.mk le_bR
  have lt_bR := hs
  clear hs
  obtain ⟨bV, hbV⟩ : ∃ bV, bV = w.heap.size := ⟨_, rfl⟩
  have ne_V : bV ≠ bR := by omega
  have le_V : bV < bR := by omega
  rw [← hbV] at KV ⊢
  clear hbV hx hy hl hl' hbR
  refine wp_region_held_drew (S := fun w' => Bel w w' ∧ Blk w' bV 24 [.slice A X.length c, .slice B Y.length c']) (by kernel_rfl) ⟨g0.out.drew, KV.out.bel (Bel.refl _).drew⟩ (fun hHeld => ?_)
  (try dsimp only at hHeld)
  have KR := Ho.mk (KR.out.bel (Bel.refl W).drew)
  have lt_bR : bR < W.drew.heap.size := lt_bR
  generalize W.drew = wd at *
  refine rt (i := 0) hHeld ?_
  refine rl (i := 1) (v := ?_) hHeld (fun w hSw => ?_) ?_
  rotate_left
  · (have z0 := hSw.2.cell (i := 0) rfl; have z1 := hSw.2.cell (i := 1) rfl; go_simp; try (with_reducible rfl))
  refine rt (i := 3) hHeld ?_
  refine rl (i := 4) (v := ?_) hHeld (fun w hSw => ?_) ?_
  rotate_left
  · (have z0 := hSw.2.cell (i := 0) rfl; have z1 := hSw.2.cell (i := 1) rfl; go_simp; try (with_reducible rfl))
  try simp only [Act.put, List.setIfInBounds_toArray, List.set_cons_zero, List.set_cons_succ]
  refine rc (i := 2) (fun K hK => ?_)
  go_simp
  go_at_call 96
  (with_reducible refine (C0.out _ hHeld.1).mono ?_); rintro e v1 ⟨_, rfl, r0, bv1⟩
  have S0 := lt_bR
  have Q0 := Ho.mk r0
  obtain ⟨A0, c0, rfl, _⟩ := r0.out
  have R0 := Ho.mk (RowF.mono (B' := bR + 1) r0 S0)
  clear r0
  try go_wp2_with fail
  refine hK.out _ _ ⟨Bel.trans hHeld.1 bv1, hHeld.2.bel bv1⟩ (fun hHeld => ?_)
  clear hK K
  have KR := Ho.mk (KR.out.bel bv1)
  have lt_bR := Nat.lt_of_lt_of_le lt_bR bv1.size
  clear bv1
  try simp only [Act.put, List.setIfInBounds_toArray, List.set_cons_zero, List.set_cons_succ]
  refine rc (i := 5) (fun K hK => ?_)
  go_simp
  go_at_call 96
  (with_reducible refine (C1.out _ hHeld.1).mono ?_); rintro e v2 ⟨_, rfl, r1, bv2⟩
  have S1 := lt_bR
  have Q1 := Ho.mk r1
  have NE := Ho.mk (two_of (RowF.mono (B' := bR + 1) Q0.out S0) (Nat.le_refl _) (R0.out.bel (by assumption)) r1 S1).ne
  have Q1 := Ho.mk r1
  obtain ⟨A1, c1, rfl, _⟩ := r1.out
  have R1 := Ho.mk (RowF.mono (B' := bR + 1) r1 S1)
  clear r1
  try go_wp2_with fail
  refine hK.out _ _ ⟨Bel.trans hHeld.1 bv2, hHeld.2.bel bv2⟩ (fun hHeld => ?_)
  clear hK K
  have KR := Ho.mk (KR.out.bel bv2)
  have R0 := Ho.mk (R0.out.bel bv2)
  have lt_bR := Nat.lt_of_lt_of_le lt_bR bv2.size
  clear bv2
  refine rt (i := 6) hHeld ?_
  try simp only [Act.put, List.setIfInBounds_toArray, List.set_cons_zero, List.set_cons_succ]
  have y0 := KR.out.cell (i := 0) rfl
  have y1 := KR.out.cell (i := 1) rfl
  have x0 := KR.out.free 0
  have x1 := KR.out.free 1
  refine rc (i := 7) (fun K hK => ?_)
  go_simp
  have R0 := Ho.mk ((R0.out.far (p := ⟨bR, 0, none⟩) (by dsimp only; omega) (.slice A0 X.length c0)).far (p := ⟨bR, 1, none⟩) (by dsimp only; omega) (.slice A1 Y.length c1))
  have R1 := Ho.mk ((R1.out.far (p := ⟨bR, 0, none⟩) (by dsimp only; omega) (.slice A0 X.length c0)).far (p := ⟨bR, 1, none⟩) (by dsimp only; omega) (.slice A1 Y.length c1))
  have KR := Ho.mk ((KR.out.set 0 (.slice A0 X.length c0)).set 1 (.slice A1 Y.length c1))
  simp only [List.set_cons_zero, List.set_cons_succ] at KR
  refine hK.out _ _ ⟨⟨((hHeld.1.out.setCell (p := ⟨bR, 0, none⟩) (by dsimp only; omega) (.slice A0 X.length c0)).setCell (p := ⟨bR, 1, none⟩) (by dsimp only; omega) (.slice A1 Y.length c1))⟩, ((hHeld.2.far (p := ⟨bR, 0, none⟩) (by dsimp only; omega) (.slice A0 X.length c0)).far (p := ⟨bR, 1, none⟩) (by dsimp only; omega) (.slice A1 Y.length c1))⟩ (fun hHeld => ?_)
  clear hK K y0 x0 y1 x1
  generalize World.setCell (World.setCell v2 ⟨bR, 0, none⟩ (.slice A0 X.length c0)) ⟨bR, 1, none⟩ (.slice A1 Y.length c1) = v3 at *
  try simp only [Act.put, List.setIfInBounds_toArray, List.set_cons_zero, List.set_cons_succ]
  refine wpAnyH_done (by kernel_rfl) ?_ _
  go_wp2_with fail
  refine bodyPost_ret (resV (fn := Tryz.f51) rfl rfl KR.out) rfl ⟨_, _, _, _, rfl, ⟨R0.out.mono (by have := HS.out; omega), R1.out.mono (by have := HS.out; omega), NE.out⟩, hHeld.1⟩
def MakesVE (W0 : World) (X Y : List Nat) (z : Int) (e : Ending) (w' : World) : Prop := ∃ A c B c', e = .returned (.tuple #[.agg #[.slice A X.length c, .slice B Y.length c'], .int .i64 z]) ∧ Two w' W0.heap.size (.slice A X.length c) (.slice B Y.length c') X Y ∧ Bel W0 w'
theorem resVE {fn : Func} {p q : Tmp} {tmps : Array Value} {w : World} {b : Nat} {v0 v1 : Value} {z : Int} (hf : fn.results = #[.cell p 24, .tmp q]) (hp : tmps.getD p undef = .pointer (some ⟨b, 0, none⟩)) (hq : tmps.getD q undef = .int .i64 z) (h : Blk w b 24 [v0, v1]) :
    (results fn tmps).run Tryz.prog w = .ok (.tuple #[.agg #[v0, v1], .int .i64 z]) w := by
  have y0 := h.cell (i := 0) rfl
  have y1 := h.cell (i := 1) rfl
  have hp2 := hp
  have hq2 := hq
  rw [Array.getD_eq_getD_getElem?] at hp2 hq2
  simp [results, hf, hp2, hq2, go_sem, y0, y1]
theorem two_nil (w : World) (B : Nat) : Two w B (.slice none 0 0) (.slice none 0 0) [] [] := ⟨RowF.nil _ _ _ _ (by decide), RowF.nil _ _ _ _ (by decide), fun b b' o o' n n' c c' e => by cases e⟩
def okP (n m : Nat) : Bool := decide (n = m ∧ 0 ≤ logI n)
def invR (X Y : List Nat) : List Nat × List Nat := if okP X.length Y.length then invN (Nat.log2 X.length) (X, Y) else (X, Y)
def errR (X Y : List Nat) : Int := if okP X.length Y.length then 0 else 2
theorem okP_pow {n m : Nat} (h : okP n m = true) : n = 2 ^ Nat.log2 n ∧ m = n ∧ n ≤ 1024 := by
  unfold okP at h
  have h2 := of_decide_eq_true h
  obtain ⟨h3, h4⟩ := h2
  unfold logI at h4
  split at h4
  · rename_i q; exact ⟨q.2.1.symm, h3.symm, q.2.2⟩
  · omega
theorem invN_len {p : Nat} {st : List Nat × List Nat} (h1 : st.1.length = 2 ^ p) (h2 : st.2.length = 2 ^ p) : (invN p st).1.length = 2 ^ p ∧ (invN p st).2.length = 2 ^ p := by
  have := intoN_len (p := p) (st := (st.1, st.2.map fng)) h1 (by rw [List.length_map]; exact h2)
  unfold invN
  simp only [List.length_map]; exact this
theorem invR_len (X Y : List Nat) : (invR X Y).1.length = X.length ∧ (invR X Y).2.length = Y.length := by
  unfold invR
  split
  · rename_i h
    obtain ⟨h1, h2, _⟩ := okP_pow h
    have := invN_len (p := Nat.log2 X.length) (st := (X, Y)) h1 (by rw [h2]; exact h1)
    rw [← h1] at this; rw [h2]; exact this
  · exact ⟨rfl, rfl⟩
theorem log_le {n : Nat} (h : n = 2 ^ Nat.log2 n) (hn : n ≤ 128) : Nat.log2 n ≤ 7 := by
  rcases Nat.lt_or_ge 7 (Nat.log2 n) with q | q
  · have : 2 ^ 8 ≤ 2 ^ Nat.log2 n := Nat.pow_le_pow_right (by decide) q
    omega
  · exact q
theorem gr2_two {w w' : World} {b b' B c c' n m : Nat} {X' Y' : List Nat} (g : Gr2 b b' w w') (hb : B ≤ b) (hb' : B ≤ b') (ne : b ≠ b') (hX : Fz w' b X') (hY : Fz w' b' Y') (l1 : X'.length = n) (l2 : Y'.length = m) (hc : n ≤ c) (hc' : m ≤ c') (C : c ≤ 9223372036854775807) (C' : c' ≤ 9223372036854775807) :
    Two w' B (.slice (some ⟨b, 0, none⟩) n c) (.slice (some ⟨b', 0, none⟩) m c') X' Y' := by
  subst l1; subst l2
  exact ⟨RowF.of hX hb hc C, RowF.of hY hb' hc' C', fun _ _ _ _ _ _ _ _ e e' _ _ => by cases e; cases e'; exact ne⟩
structure Frm (A A' : Option Addr) (n m : Nat) (w w' : World) : Prop where
  os : w'.os = w.os
  tape : w'.tape = w.tape
  output : w'.output = w.output
  size : w.heap.size ≤ w'.heap.size
  block : ∀ k, k < w.heap.size → (∀ b, 0 < n → A = some ⟨b, 0, none⟩ → k ≠ b) → (∀ b, 0 < m → A' = some ⟨b, 0, none⟩ → k ≠ b) → w'.heap[k]? = w.heap[k]?
theorem frm_bel {w w' : World} (g : Bel w w') (A A' : Option Addr) (n m : Nat) : Frm A A' n m w w' := ⟨g.out.os, g.out.tape, g.out.output, g.out.size, fun k hk _ _ => g.out.block k hk⟩
theorem frm_gr2 {w w' : World} {b b' n m : Nat} (g : Gr2 b b' w w') (hn : 0 < n) (hm : 0 < m) : Frm (some ⟨b, 0, none⟩) (some ⟨b', 0, none⟩) n m w w' :=
  ⟨g.os, g.tape, g.output, g.size, fun k hk h1 h2 => g.block k hk (h1 b hn rfl) (h2 b' hm rfl)⟩
theorem frm_gr {w w' : World} {b' n m : Nat} (A : Option Addr) (g : Gr b' w w') (hm : 0 < m) : Frm A (some ⟨b', 0, none⟩) n m w w' :=
  ⟨g.os, g.tape, g.output, g.size, fun k hk _ h2 => g.block k hk (h2 b' hm rfl)⟩
theorem Frm.blk {A A' : Option Addr} {w w' : World} {B c c' k : Nat} {X Y : List Nat} {t : TypeId} {cs : List Value} (g : Frm A A' X.length Y.length w w') (tw : Two w B (.slice A X.length c) (.slice A' Y.length c') X Y) (K : Blk w k t cs) (hk : ∀ b, B ≤ b → Fz w b X ∨ Fz w b Y → k ≠ b) : Blk w' k t cs :=
  ⟨by
    rw [g.block k K.lt ?_ ?_]; exact K.out
    · intro b hp e
      obtain ⟨b1, c1, e1, _, _, f, l⟩ := tw.one.at_ hp
      rw [e] at e1; cases e1; exact hk _ l (.inl f)
    · intro b hp e
      obtain ⟨b1, c1, e1, _, _, f, l⟩ := tw.two.at_ hp
      rw [e] at e1; cases e1; exact hk _ l (.inr f)⟩
theorem Frm.bel {A A' : Option Addr} {W0 w w' : World} {B c c' : Nat} {X Y : List Nat} (g : Frm A A' X.length Y.length w w') (tw : Two w B (.slice A X.length c) (.slice A' Y.length c') X Y) (h : Bel W0 w) (hB : W0.heap.size ≤ B) : Bel W0 w' :=
  ⟨h.out.trans ⟨g.os, g.tape, g.output, g.size, fun k hk => g.block k (Nat.lt_of_lt_of_le hk h.size) (fun b hp e => by
      obtain ⟨b1, c1, e1, _, _, f, l⟩ := tw.one.at_ hp
      rw [e] at e1; cases e1; omega) (fun b hp e => by
      obtain ⟨b1, c1, e1, _, _, f, l⟩ := tw.two.at_ hp
      rw [e] at e1; cases e1; omega)⟩⟩
def IntoSaid (fn : Nat) (R : List Nat → List Nat → List Nat × List Nat) : Prop :=
  ∀ (w : World) (B c c' : Nat) (A A' : Option Addr) (X Y : List Nat), Tab w → Two w B (.slice A X.length c) (.slice A' Y.length c') X Y → X.length ≤ 128 → Y.length ≤ 128 → B ≤ w.heap.size →
    Calls Tryz.prog fn #[.agg #[.slice A X.length c, .slice A' Y.length c']] w fun e w' => e = .returned (.int .i64 (errR X Y)) ∧ Two w' B (.slice A X.length c) (.slice A' Y.length c') (R X Y).1 (R X Y).2 ∧ Frm A A' X.length Y.length w w'
theorem Two.keep {w w' : World} {B b' : Nat} {u0 u1 : Value} {X Y : List Nat} (h : Two w B u0 u1 X Y) (hY : ∀ n c, u1 = .slice (some ⟨b', 0, none⟩) n c → 0 < Y.length → Fz w' b' Y) (g : Gr b' w w') (h1 : ∃ n c, u1 = .slice (some ⟨b', 0, none⟩) n c) (hp : 0 < Y.length) : Two w' B u0 u1 X Y := by
  obtain ⟨n1, c1, e1⟩ := h1
  obtain ⟨b2, c2, e2, l2, C2, f2, B2⟩ := h.two.at_ hp
  rw [e1] at e2; cases e2
  refine ⟨?_, ?_, h.ne⟩
  · obtain ⟨A, c, e, l, C, d⟩ := h.one.out
    refine ⟨A, c, e, l, C, ?_⟩
    rcases d with d | ⟨b, rfl, f, lb⟩
    · exact .inl d
    · by_cases hx : 0 < X.length
      · exact .inr ⟨b, rfl, gr_fz g f (h.ne b b' 0 0 _ _ _ _ e e1 hx hp), lb⟩
      · exact .inl (by omega)
  · subst e1
    exact ⟨_, _, rfl, l2, C2, .inr ⟨b', rfl, hY _ _ rfl hp, B2⟩⟩
theorem invInto : IntoSaid 20 invR := by
  intro w B c c' A A' X Y T tw hX hY hB
  by_cases h : okP X.length Y.length = true
  · obtain ⟨h1, h2, h3⟩ := okP_pow h
    have hpos : 0 < X.length := by rw [h1]; exact Nat.two_pow_pos _
    obtain ⟨b, c1, e1, l1, C1, f1, B1⟩ := tw.one.at_ hpos
    obtain ⟨b', c2, e2, l2, C2, f2, B2⟩ := tw.two.at_ (by omega)
    have ne := tw.ne b b' 0 0 _ _ _ _ e1 e2 hpos (by omega)
    cases e1; cases e2
    have hc := dInvInto (p := Nat.log2 X.length) (N := X.length) (c := c) (c' := c') w T f1 f2 ne h1 rfl h2 (log_le h1 hX) l1 (by omega) C1 C2
    rw [h2]
    refine hc.mono ?_
    rintro e w' ⟨rfl, g1, g2, G⟩
    have hl := invN_len (p := Nat.log2 X.length) (st := (X, Y)) h1 (by rw [h2]; exact h1)
    have hR : invR X Y = invN (Nat.log2 X.length) (X, Y) := by unfold invR; rw [if_pos h]
    refine ⟨by unfold errR; rw [if_pos h], ?_, frm_gr2 G hpos (by omega)⟩
    rw [hR]
    exact gr2_two G B1 B2 ne g1 g2 (by rw [hl.1, ← h1]) (by rw [hl.2, ← h1]) l1 (by omega) C1 C2
  · have hbad : Bad X.length Y.length := fun q => h (decide_eq_true q)
    have hR : invR X Y = (X, Y) := by unfold invR; rw [if_neg h]
    have hE : errR X Y = 2 := by unfold errR; rw [if_neg h]
    rw [hR, hE]
    by_cases hy : 0 < Y.length
    · obtain ⟨b', c2, e2, l2, C2, f2, B2⟩ := tw.two.at_ hy
      cases e2
      refine (dInvBad1 (n := X.length) (m := Y.length) (A := A) (c := c) (c' := c') w T f2 rfl hy (by omega) (by omega) hbad).mono ?_
      rintro e w' ⟨rfl, g2, G⟩
      exact ⟨rfl, Two.keep tw (fun _ _ _ _ => g2) G ⟨_, _, rfl⟩ hy, frm_gr _ G hy⟩
    · have h0 : Y.length = 0 := by omega
      obtain rfl := List.length_eq_zero_iff.1 h0
      refine (dInvBad0 (n := X.length) (A := A) (B := A') (c := c) (c' := c') w T (by omega) hbad).mono ?_
      rintro e w' ⟨rfl, g⟩
      exact ⟨rfl, tw.bel g, frm_bel g _ _ _ _⟩
end Go.Proofs.YtnbdoidccacdnaaGreatDoor.Pg
namespace Go.Proofs.YtnbdoidccacdnaaGreatDoor.Ph
open Ieee Go Go.RowKit Go.Proofs Go.Proofs.YtnbdoidccacdnaaGreatDoor Ow Dt Gp I0 U0 W0 S4 S6 P0 M0 M1 M2 M3 P4 P5 P6 P8 Pa Pb W4 W5 W1 W2 Pc Pe Pg
attribute [local go_sem ↓] Go.wp_at_zero Go.wp_at_succ
theorem vec_ne {w : World} {k b : Nat} {cs : List Value} {X : List Nat} (K : Blk w k 24 cs) (h : Fz w b X) : k ≠ b := by
  rintro rfl
  obtain ⟨ds, h1, _⟩ := h.out
  have h2 := h1.out
  rw [K.out] at h2
  simp at h2
def ifR (X Y : List Nat) : List Nat × List Nat := if okP X.length Y.length then invR X Y else ([], [])
set_option maxRecDepth 100000 in
set_option maxHeartbeats 16000000 in
theorem dIfft {A B : Option Addr} {c c' : Nat} {X Y : List Nat} (w : World) (T : Tab w) (hx : In w (.slice A X.length c) X) (hy : In w (.slice B Y.length c') Y) (hl : X.length ≤ 128) (hl' : Y.length ≤ 128) :
    Calls Tryz.prog 17 #[.agg #[.slice A X.length c, .slice B Y.length c']] w (MakesVE w (ifR X Y).1 (ifR X Y).2 (errR X Y)) := by
  have KV := Ho.mk ((Blk.new w [.slice A X.length c, .slice B Y.length c'] 24).old (.cells #[.slice none 0 0, .slice none 0 0] 24))
  have KR := Ho.mk (Blk.new (w.alloc (.cells #[.slice A X.length c, .slice B Y.length c'] 24)) [.slice none 0 0, .slice none 0 0] 24)
  have g0 := Ho.mk (((Bel.refl w).alloc (.cells #[.slice A X.length c, .slice B Y.length c'] 24)).alloc (.cells #[.slice none 0 0, .slice none 0 0] 24))
  have TT := Ho.mk T
  rw [World.size_alloc] at KR
  clear T
  go_enter Tryz.func17, Tryz.ntmps17
  go_upto_region 1 with fail
  have hs : w.heap.size + 1 < ((w.alloc (.cells #[.slice A X.length c, .slice B Y.length c'] 24)).alloc (.cells #[.slice none 0 0, .slice none 0 0] 24)).heap.size := by simp only [World.size_alloc]; omega
  generalize (w.alloc (.cells #[.slice A X.length c, .slice B Y.length c'] 24)).alloc (.cells #[.slice none 0 0, .slice none 0 0] 24) = W at *
  obtain ⟨bR, hbR⟩ : ∃ bR, bR = w.heap.size + 1 := ⟨_, rfl⟩
  have le_bR : w.heap.size ≤ bR := by omega
  have lt_V : w.heap.size < bR := by omega
  rw [← hbR] at KR hs ⊢
  clear hbR
  have OW := Ho.mk (dOwn W (hx.bel g0.out) (hy.bel g0.out) (by omega) (by omega))
  have y0 := KV.out.cell (i := 0) rfl
  have y1 := KV.out.cell (i := 1) rfl
  clear hx hy
  go_wp2_with fail
  (with_reducible refine OW.out.mono ?_); rintro e w1 ⟨A1, c1, B1, d1, rfl, tw, b1⟩
  have TW := Ho.mk (tw.bel ((Bel.refl w1).alloc (.cells #[.slice A1 X.length c1, .slice B1 Y.length d1] 24)))
  have K4 := Ho.mk (Blk.new w1 [.slice A1 X.length c1, .slice B1 Y.length d1] 24)
  have KR := Ho.mk ((KR.out.bel b1).old (.cells #[.slice A1 X.length c1, .slice B1 Y.length d1] 24))
  have GB := Ho.mk ((g0.out.trans b1).alloc (.cells #[.slice A1 X.length c1, .slice B1 Y.length d1] 24))
  have sz1 := b1.size
  have SZW := Ho.mk (show W.heap.size ≤ (w1.alloc (.cells #[.slice A1 X.length c1, .slice B1 Y.length d1] 24)).heap.size by rw [World.size_alloc]; omega)
  clear tw b1 KV y0 y1 OW g0
  go_upto_region 2 with fail
  generalize w1.alloc (.cells #[.slice A1 X.length c1, .slice B1 Y.length d1] 24) = w2 at *
  have y0 := K4.out.cell (i := 0) rfl
  have y1 := K4.out.cell (i := 1) rfl
  have sz2 := GB.out.size
  have IN := Ho.mk (invInto w2 W.heap.size c1 d1 A1 B1 X Y (TT.out.bel GB.out) TW.out hl hl' SZW.out)
  go_wp2_with fail
  (with_reducible refine IN.out.mono ?_); rintro e w3 ⟨rfl, t3, F3⟩
  clear IN y0 y1
  have KR := Ho.mk (F3.blk TW.out KR.out (fun b _ hf => by rcases hf with hf | hf <;> exact vec_ne KR.out hf))
  have K4 := Ho.mk (F3.blk TW.out K4.out (fun b _ hf => by rcases hf with hf | hf <;> exact vec_ne K4.out hf))
  have BB := Ho.mk (F3.bel TW.out GB.out (by omega))
  have T3 := Ho.mk t3
  have HF := Ho.mk F3
  clear t3 F3
  by_cases hok : okP X.length Y.length = true
  · have he : errR X Y = 0 := by unfold errR; rw [if_pos hok]
    have HL := Ho.mk (invR_len X Y)
    have h4 := K4.out.cell (i := 0) rfl
    have h5 := K4.out.cell (i := 1) rfl
    have x0 := KR.out.cell (i := 0) rfl
    have x1 := KR.out.cell (i := 1) rfl
    have z0 := KR.out.free 0
    have z1 := KR.out.free 1
    rw [he]
    go_wp2
    refine bodyPost_ret (resVE (fn := Tryz.f17) rfl rfl rfl ((KR.out.set 0 _).set 1 _)) rfl ?_
    have e : ifR X Y = invR X Y := by unfold ifR; rw [if_pos hok]
    unfold MakesVE
    rw [e, he, HL.out.1, HL.out.2]
    exact ⟨_, _, _, _, rfl, (((T3.out.mono (B' := bR + 1) (by omega)).far (p := ⟨bR, 0, none⟩) (by dsimp only; omega) _).far (p := ⟨bR, 1, none⟩) (by dsimp only; omega) _).mono (by omega), ⟨(BB.out.out.setCell (p := ⟨bR, 0, none⟩) (by dsimp only; omega) _).setCell (p := ⟨bR, 1, none⟩) (by dsimp only; omega) _⟩⟩
  · have he : errR X Y = 2 := by unfold errR; rw [if_neg hok]
    have x0 := KR.out.cell (i := 0) rfl
    have x1 := KR.out.cell (i := 1) rfl
    have z0 := KR.out.free 0
    have z1 := KR.out.free 1
    rw [he]
    go_wp2
    refine bodyPost_ret (resVE (fn := Tryz.f17) rfl rfl rfl ((KR.out.set 0 _).set 1 _)) rfl ?_
    have e : ifR X Y = ([], []) := by unfold ifR; rw [if_neg hok]
    unfold MakesVE
    rw [e, he]
    exact ⟨none, 0, none, 0, rfl, two_nil _ _, ⟨(BB.out.out.setCell (p := ⟨bR, 0, none⟩) (by dsimp only; omega) _).setCell (p := ⟨bR, 1, none⟩) (by dsimp only; omega) _⟩⟩
theorem RowF.set2V {w : World} {B k : Nat} {u : Value} {X : List Nat} {cs : List Value} (h : RowF w B u X) (K : Blk w k 24 cs) (v0 v1 : Value) : RowF ((w.setCell ⟨k, 0, none⟩ v0).setCell ⟨k, 1, none⟩ v1) B u X := by
  obtain ⟨A, c, h1, h2, h3, h4⟩ := h.out
  refine ⟨A, c, h1, h2, h3, h4.imp id fun ⟨b, e, f, l⟩ => ⟨b, e, ?_, l⟩⟩
  have ne := Ne.symm (vec_ne K f)
  exact (f.far (p := ⟨k, 0, none⟩) ne v0).far (p := ⟨k, 1, none⟩) ne v1
end Go.Proofs.YtnbdoidccacdnaaGreatDoor.Ph
namespace Go.Proofs.YtnbdoidccacdnaaGreatDoor.Pi
open Ieee Go Go.RowKit Go.Proofs Go.Proofs.YtnbdoidccacdnaaGreatDoor Ow Dt Gp I0 U0 W0 S4 S6 P0 M0 M1 M2 M3 P4 P5 P6 P8 Pa Pb W4 W5 W1 W2 Pc Pe Pg Ph
attribute [local go_sem ↓] Go.wp_at_zero Go.wp_at_succ
theorem dEachTwo {A A' : Option Addr} {c c' B : Nat} {X Y : List Nat} (w : World) (tw : Two w B (.slice A X.length c) (.slice A' Y.length c') X Y) (hl : Y.length ≤ 100000) :
    Calls Tryz.prog 53 #[.slice A' Y.length c', .func (.func 54) #[] #[]] w
      fun e w' => e = .returned (.tuple #[]) ∧ Two w' B (.slice A X.length c) (.slice A' Y.length c') X (Y.map fng) ∧ Frm A A' X.length Y.length w w' := by
  by_cases hy : 0 < Y.length
  · obtain ⟨b', c2, e2, l2, C2, f2, B2⟩ := tw.two.at_ hy
    have ne := tw.ne
    cases e2
    refine (dEachO (n := Y.length) (c := c') w f2 rfl hl).mono ?_
    rintro e w' ⟨rfl, g2, G⟩
    refine ⟨rfl, ⟨?_, ?_, fun b b2 o o2 n n2 c c2 e1 e2 h1 h2 => ne b b2 o o2 n n2 c c2 e1 e2 h1 hy⟩, frm_gr _ G hy⟩
    · obtain ⟨A1, c1, e, l, C, d⟩ := tw.one.out
      refine ⟨A1, c1, e, l, C, ?_⟩
      rcases d with d | ⟨b, rfl, f, lb⟩
      · exact .inl d
      · by_cases hx : 0 < X.length
        · exact .inr ⟨b, rfl, gr_fz G f (ne b b' 0 0 _ _ _ _ e rfl hx hy), lb⟩
        · exact .inl (by omega)
    · have := RowF.of g2 B2 (by rw [List.length_map]; exact l2) C2
      rwa [List.length_map] at this
  · have h0 : Y.length = 0 := by omega
    obtain rfl := List.length_eq_zero_iff.1 h0
    refine (dEach0 w).mono ?_
    rintro e w' ⟨rfl, rfl⟩
    exact ⟨rfl, tw, frm_bel (Bel.refl _) _ _ _ _⟩
set_option maxRecDepth 100000 in
set_option maxHeartbeats 16000000 in
theorem dConj {A B : Option Addr} {c c' : Nat} {X Y : List Nat} (w : World) (T : Tab w) (hx : In w (.slice A X.length c) X) (hy : In w (.slice B Y.length c') Y) (hl : X.length ≤ 128) (hl' : Y.length ≤ 128) :
    Calls Tryz.prog 22 #[.agg #[.slice A X.length c, .slice B Y.length c']] w (MakesV w X (Y.map fng)) := by
  have KV := Ho.mk ((Blk.new w [.slice A X.length c, .slice B Y.length c'] 24).old (.cells #[.slice none 0 0, .slice none 0 0] 24))
  have KR := Ho.mk (Blk.new (w.alloc (.cells #[.slice A X.length c, .slice B Y.length c'] 24)) [.slice none 0 0, .slice none 0 0] 24)
  have g0 := Ho.mk (((Bel.refl w).alloc (.cells #[.slice A X.length c, .slice B Y.length c'] 24)).alloc (.cells #[.slice none 0 0, .slice none 0 0] 24))
  have TT := Ho.mk T
  rw [World.size_alloc] at KR
  clear T
  go_enter Tryz.func22, Tryz.ntmps22
  go_upto_region 1 with fail
  have hs : w.heap.size + 1 < ((w.alloc (.cells #[.slice A X.length c, .slice B Y.length c'] 24)).alloc (.cells #[.slice none 0 0, .slice none 0 0] 24)).heap.size := by simp only [World.size_alloc]; omega
  generalize (w.alloc (.cells #[.slice A X.length c, .slice B Y.length c'] 24)).alloc (.cells #[.slice none 0 0, .slice none 0 0] 24) = W at *
  obtain ⟨bR, hbR⟩ : ∃ bR, bR = w.heap.size + 1 := ⟨_, rfl⟩
  have le_bR : w.heap.size ≤ bR := by omega
  have lt_V : w.heap.size < bR := by omega
  rw [← hbR] at KR hs ⊢
  clear hbR
  have OW := Ho.mk (dOwn W (hx.bel g0.out) (hy.bel g0.out) (by omega) (by omega))
  have y0 := KV.out.cell (i := 0) rfl
  have y1 := KV.out.cell (i := 1) rfl
  clear hx hy
  go_wp2_with fail
  (with_reducible refine OW.out.mono ?_); rintro e w1 ⟨A1, c1, B1, d1, rfl, tw, b1⟩
  have TW := Ho.mk (tw.bel ((Bel.refl w1).alloc (.cells #[.slice A1 X.length c1, .slice B1 Y.length d1] 24)))
  have K4 := Ho.mk (Blk.new w1 [.slice A1 X.length c1, .slice B1 Y.length d1] 24)
  have KR := Ho.mk ((KR.out.bel b1).old (.cells #[.slice A1 X.length c1, .slice B1 Y.length d1] 24))
  have GB := Ho.mk ((g0.out.trans b1).alloc (.cells #[.slice A1 X.length c1, .slice B1 Y.length d1] 24))
  clear tw b1 KV y0 y1 OW g0
  go_upto_region 2 with fail
  generalize w1.alloc (.cells #[.slice A1 X.length c1, .slice B1 Y.length d1] 24) = w2 at *
  have y1 := K4.out.cell (i := 1) rfl
  have IN := Ho.mk (dEachTwo w2 TW.out (by omega))
  go_wp2_with fail
  (with_reducible refine IN.out.mono ?_); rintro e w3 ⟨rfl, t3, F3⟩
  have KR := Ho.mk (F3.blk TW.out KR.out (fun b _ hf => by rcases hf with hf | hf <;> exact vec_ne KR.out hf))
  have K4 := Ho.mk (F3.blk TW.out K4.out (fun b _ hf => by rcases hf with hf | hf <;> exact vec_ne K4.out hf))
  have BB := Ho.mk (F3.bel TW.out GB.out (by omega))
  have T3 := Ho.mk t3
  clear t3 F3 IN y1
  have h4 := K4.out.cell (i := 0) rfl
  have h5 := K4.out.cell (i := 1) rfl
  have x0 := KR.out.cell (i := 0) rfl
  have x1 := KR.out.cell (i := 1) rfl
  have z0 := KR.out.free 0
  have z1 := KR.out.free 1
  go_wp2
  refine bodyPost_ret (resV (fn := Tryz.f22) rfl rfl ((KR.out.set 0 _).set 1 _)) rfl ?_
  unfold MakesV
  rw [List.length_map]
  exact ⟨_, _, _, _, rfl, (((T3.out.mono (B' := bR + 1) (by omega)).far (p := ⟨bR, 0, none⟩) (by dsimp only; omega) _).far (p := ⟨bR, 1, none⟩) (by dsimp only; omega) _).mono (by omega), ⟨(BB.out.out.setCell (p := ⟨bR, 0, none⟩) (by dsimp only; omega) _).setCell (p := ⟨bR, 1, none⟩) (by dsimp only; omega) _⟩⟩
set_option maxRecDepth 100000 in
set_option maxHeartbeats 16000000 in
theorem dSwapV {A B : Option Addr} {c c' : Nat} {X Y : List Nat} (w : World) (hx : In w (.slice A X.length c) X) (hy : In w (.slice B Y.length c') Y) (hl : X.length ≤ 128) (hl' : Y.length ≤ 128) :
    Calls Tryz.prog 24 #[.agg #[.slice A X.length c, .slice B Y.length c']] w (MakesV w Y X) := by
  have KV := Ho.mk ((Blk.new w [.slice A X.length c, .slice B Y.length c'] 24).old (.cells #[.slice none 0 0, .slice none 0 0] 24))
  have KR := Ho.mk (Blk.new (w.alloc (.cells #[.slice A X.length c, .slice B Y.length c'] 24)) [.slice none 0 0, .slice none 0 0] 24)
  have g0 := Ho.mk (((Bel.refl w).alloc (.cells #[.slice A X.length c, .slice B Y.length c'] 24)).alloc (.cells #[.slice none 0 0, .slice none 0 0] 24))
  rw [World.size_alloc] at KR
  go_enter Tryz.func24, Tryz.ntmps24
  go_upto_region 1 with fail
  have hs : w.heap.size + 1 < ((w.alloc (.cells #[.slice A X.length c, .slice B Y.length c'] 24)).alloc (.cells #[.slice none 0 0, .slice none 0 0] 24)).heap.size := by simp only [World.size_alloc]; omega
  generalize (w.alloc (.cells #[.slice A X.length c, .slice B Y.length c'] 24)).alloc (.cells #[.slice none 0 0, .slice none 0 0] 24) = W at *
  obtain ⟨bR, hbR⟩ : ∃ bR, bR = w.heap.size + 1 := ⟨_, rfl⟩
  have le_bR : w.heap.size ≤ bR := by omega
  have lt_V : w.heap.size < bR := by omega
  rw [← hbR] at KR hs ⊢
  clear hbR
  have y0 := KV.out.cell (i := 0) rfl
  have y1 := KV.out.cell (i := 1) rfl
  have x0 := KV.out.free 0
  have x1 := KV.out.free 1
  obtain ⟨bV, hbV⟩ : ∃ bV, bV = w.heap.size := ⟨_, rfl⟩
  have lt_VR : bV < bR := by omega
  have lt_W := hs
  have le_V : w.heap.size ≤ bV := by omega
  rw [← hbV] at KV y0 y1 x0 x1 ⊢
  clear hbV hs
  go_upto_region 2 with fail
  have KV := Ho.mk ((KV.out.set 0 (.slice B Y.length c')).set 1 (.slice A X.length c))
  simp only [List.set_cons_zero, List.set_cons_succ] at KV
  have KR := Ho.mk ((KR.out.far (p := ⟨bV, 0, none⟩) (by dsimp only; omega) (.slice B Y.length c')).far (p := ⟨bV, 1, none⟩) (by dsimp only; omega) (.slice A X.length c))
  have g1 := Ho.mk (show Bel w ((W.setCell ⟨bV, 0, none⟩ (.slice B Y.length c')).setCell ⟨bV, 1, none⟩ (.slice A X.length c)) from ⟨(g0.out.out.setCell (p := ⟨bV, 0, none⟩) le_V _).setCell (p := ⟨bV, 1, none⟩) le_V _⟩)
  have lt_W : bR < ((W.setCell ⟨bV, 0, none⟩ (.slice B Y.length c')).setCell ⟨bV, 1, none⟩ (.slice A X.length c)).heap.size := by simpa [World.setCell] using lt_W
  generalize (W.setCell ⟨bV, 0, none⟩ (.slice B Y.length c')).setCell ⟨bV, 1, none⟩ (.slice A X.length c) = W2 at *
  have OW := Ho.mk (dOwn W2 (hy.bel g1.out) (hx.bel g1.out) (by omega) (by omega))
  have y0 := KV.out.cell (i := 0) rfl
  have y1 := KV.out.cell (i := 1) rfl
  clear hx hy x0 x1
  go_wp2_with fail
  (with_reducible refine OW.out.mono ?_); rintro e w1 ⟨A1, c1, B1, d1, rfl, tw, b1⟩
  have KR := Ho.mk (KR.out.bel b1)
  have BB := Ho.mk (g1.out.trans b1)
  have T3 := Ho.mk tw
  clear tw b1 OW
  have x0 := KR.out.cell (i := 0) rfl
  have x1 := KR.out.cell (i := 1) rfl
  have z0 := KR.out.free 0
  have z1 := KR.out.free 1
  go_wp2
  refine bodyPost_ret (resV (fn := Tryz.f24) rfl rfl ((KR.out.set 0 _).set 1 _)) rfl ?_
  exact ⟨_, _, _, _, rfl, (((T3.out.mono (B' := bR + 1) (by omega)).far (p := ⟨bR, 0, none⟩) (by dsimp only; omega) _).far (p := ⟨bR, 1, none⟩) (by dsimp only; omega) _).mono (by omega), ⟨(BB.out.out.setCell (p := ⟨bR, 0, none⟩) (by dsimp only; omega) _).setCell (p := ⟨bR, 1, none⟩) (by dsimp only; omega) _⟩⟩
end Go.Proofs.YtnbdoidccacdnaaGreatDoor.Pi
namespace Go.Proofs.YtnbdoidccacdnaaGreatDoor.Pj
open Ieee Go Go.RowKit Go.Proofs Go.Proofs.YtnbdoidccacdnaaGreatDoor Ow Dt Gp I0 U0 W0 S4 S6 P0 M0 M1 M2 M3 P4 P5 P6 P8 Pa Pb W4 W5 W1 W2 Pc Pe Pg Ph Go.Proofs.YtnbdoidccacdnaaGreatDoor.Pi
attribute [local go_sem ↓] Go.wp_at_zero Go.wp_at_succ
theorem wp_app_in {w : World} {o : Oper} {a : Act} {K : Act → World → Prop} {Q : Exit → Act → World → Prop} (s x : Operand) (ho : o.op = .call { callee := .builtin .append, args := #[s, x], argTypes := #[22, 22] })
    {g c : Nat} {A : Option Addr} {X : List Nat} (hs : a.eval s = .slice (some ⟨g, 0, none⟩) 0 0) (K0 : Blk w g 50 []) (hx : a.eval x = .slice A X.length c) (hin : In w (.slice A X.length c) X) (hl : X.length ≤ 100000)
    (h : ∀ A' c' w', RowF w' g (.slice A' X.length c') X → Gr g w w' → (X.length = 0 ∨ ∃ b, A' = some ⟨b, 0, none⟩ ∧ (b = g ∨ b = w.heap.size)) → K (a.put o.dst (.slice A' X.length c')) w') : o.wp Tryz.prog a w K Q := by
  obtain ⟨A1, c1, e, h2, h3, h4, h5⟩ := hin.out
  cases e
  rcases Nat.eq_zero_or_pos X.length with h0 | hp
  · obtain rfl := List.length_eq_zero_iff.1 h0
    have fin := h (some ⟨g, 0, none⟩) 0 w (RowF.nil _ _ _ _ (by decide)) (Gr.refl _ _) (.inl rfl)
    cases A with
    | none =>
      obtain ⟨i, hi, hzz⟩ := Option.map_eq_some_iff.1 infoF
      have hrun : (Builtin.append_ #[22, 22] o.type #[.slice (some ⟨g, 0, none⟩) 0 0, .slice none 0 c]).run Tryz.prog w = .ok (.slice (some ⟨g, 0, none⟩) 0 0) w := by
        simp [Builtin.append_, run_underlying Tryz.underlying22, sizeOf, typeInfo, hi, storeCells, Builtin.lenOf, Builtin.firstCells]
      unfold Oper.wp
      simp [execOp, ho, resolve, invoke, builtin, hs, hx, hrun, Result.andThen]
      exact fin
    | some ad =>
      obtain ⟨i, hi, hzz⟩ := Option.map_eq_some_iff.1 infoF
      simp only [Prod.mk.injEq] at hzz
      obtain ⟨hz, hsz, hb⟩ := hzz
      have hrun : (Builtin.append_ #[22, 22] o.type #[.slice (some ⟨g, 0, none⟩) 0 0, .slice (some ad) 0 c]).run Tryz.prog w = .ok (.slice (some ⟨g, 0, none⟩) 0 0) w := by
        simp [Builtin.append_, run_underlying Tryz.underlying22, sizeOf, typeInfo, hi, storeCells, Builtin.lenOf, Builtin.firstCells, loadCells, loadCellsFrom]
      unfold Oper.wp
      simp [execOp, ho, resolve, invoke, builtin, hs, hx, hrun, Result.andThen]
      exact fin
  · cases A with
    | none => have := h5 rfl; omega
    | some ad =>
      obtain ⟨cs, k1, k2, k3⟩ := Fr.news h4
      obtain ⟨i, hi, hzz⟩ := Option.map_eq_some_iff.1 infoF
      simp only [Prod.mk.injEq] at hzz
      obtain ⟨hz, hsz, hb⟩ := hzz
      have hown : w.ownsRow g 50 1 (.slice (some ⟨g, 0, none⟩) 0 0) 0 [] := ⟨rfl, .inr ⟨g, 0, #[], rfl, Nat.le_refl _, K0.out, Nat.le_refl _, by decide, rfl, rfl⟩⟩
      refine wp_append_lies w s x 22 ho g 50 i (.float .f64 0) 1 8 Tryz.underlying22 hi hz hsz hb rfl (by decide) _ 0 [] hs hown ad X.length c cs hx (by rw [k1]; omega) k2 (fc_one k3) hp (by simp only [maxLen]; omega) (by omega) (Nat.le_of_lt K0.lt) _ rfl ?_
      intro g' cap w' h6 h7 h8 h9
      rw [Nat.zero_add] at h6 ⊢
      rw [List.nil_append] at h6
      refine h _ _ _ (own_rowF ⟨h6⟩ rfl k3) ⟨h7.os, h7.tape, h7.output, h7.size, fun k hk hne => h7.block k hk (by simp only [Value.ownBlock]; exact fun q => hne (Option.some.inj q))⟩ (.inr ⟨g', rfl, ?_⟩)
      rcases h8 with h8 | h8
      · simp only [Value.ownBlock] at h8; exact .inl (Option.some.inj h8).symm
      · exact .inr h8
theorem RowF.grE {w w' : World} {B g : Nat} {u : Value} {X : List Nat} (h : RowF w B u X) (G : Gr g w w') (K : Blk w g 50 []) : RowF w' B u X := by
  obtain ⟨A, c, h1, h2, h3, h4⟩ := h.out
  by_cases hp : 0 < X.length
  · refine ⟨A, c, h1, h2, h3, h4.imp id fun ⟨b, e, f, l⟩ => ⟨b, e, gr_fz G f ?_, l⟩⟩
    rintro rfl
    obtain ⟨r, hc, _⟩ := f.at_ hp
    have := K.out
    simp [World.cell?, this] at hc
  · exact ⟨A, c, h1, h2, h3, .inl (by omega)⟩
theorem two_lie {w : World} {B g c c' : Nat} {A A' : Option Addr} {X Y : List Nat} (h : RowF w B (.slice A X.length c) X) (K : Blk w g 50 []) (hl : Y.length = 0 ∨ ∃ b, A' = some ⟨b, 0, none⟩ ∧ (b = g ∨ b = w.heap.size)) :
    ∀ b b' o o' n n' d d', (Value.slice A X.length c) = .slice (some ⟨b, o, none⟩) n d → (Value.slice A' Y.length c') = .slice (some ⟨b', o', none⟩) n' d' → 0 < X.length → 0 < Y.length → b ≠ b' := by
  intro b b' o o' n n' d d' e e' hx hy
  obtain ⟨b1, c1, e1, _, _, f, _⟩ := h.at_ hx
  cases e
  cases e1
  rcases hl with hl | ⟨b2, e2, q⟩
  · omega
  · cases e'
    cases e2
    rcases q with rfl | rfl
    · rintro rfl
      obtain ⟨r, hc, _⟩ := f.at_ hx
      have := K.out
      simp [World.cell?, this] at hc
    · have := f.lt; omega
set_option maxRecDepth 100000 in
set_option maxHeartbeats 16000000 in
theorem dOwnL {A B : Option Addr} {c c' : Nat} {X Y : List Nat} (w : World) (hx : In w (.slice A X.length c) X) (hy : In w (.slice B Y.length c') Y) (hl : X.length ≤ 100000) (hl' : Y.length ≤ 100000) :
    Calls Tryz.prog 19 #[.agg #[.slice A X.length c, .slice B Y.length c']] w (MakesV w X Y) := by
  have KV := Ho.mk ((Blk.new w [.slice A X.length c, .slice B Y.length c'] 24).old (.cells #[.slice none 0 0, .slice none 0 0] 24))
  have KR := Ho.mk (Blk.new (w.alloc (.cells #[.slice A X.length c, .slice B Y.length c'] 24)) [.slice none 0 0, .slice none 0 0] 24)
  have gg := Ho.mk (((Bel.refl w).alloc (.cells #[.slice A X.length c, .slice B Y.length c'] 24)).alloc (.cells #[.slice none 0 0, .slice none 0 0] 24))
  rw [World.size_alloc] at KR
  go_enter Tryz.func19, Tryz.ntmps19
  go_wp2_with fail
  have hs : w.heap.size + 1 < ((w.alloc (.cells #[.slice A X.length c, .slice B Y.length c'] 24)).alloc (.cells #[.slice none 0 0, .slice none 0 0] 24)).heap.size := by simp only [World.size_alloc]; omega
  generalize (w.alloc (.cells #[.slice A X.length c, .slice B Y.length c'] 24)).alloc (.cells #[.slice none 0 0, .slice none 0 0] 24) = W at *
  obtain ⟨bR, hbR⟩ : ∃ bR, bR = w.heap.size + 1 := ⟨_, rfl⟩
  have le_bR : w.heap.size ≤ bR := by omega
  have lt_V : w.heap.size < bR := by omega
  rw [← hbR] at KR hs ⊢
  clear hbR
  have I0 := Ho.mk (fun w' (g : Bel w w') => hx.bel g)
  have I1 := Ho.mk (fun w' (g : Bel w w') => hy.bel g)
  have HS := Ho.mk le_bR
  obtain ⟨bV, hbV⟩ : ∃ bV, bV = w.heap.size := ⟨_, rfl⟩
  have lt_VR : bV < bR := by omega
  have lt_bR := hs
  rw [← hbV] at KV ⊢
  clear hbV hx hy hs
  refine wp_region_held_drew (S := fun w' => Bel w w' ∧ Blk w' bV 24 [.slice A X.length c, .slice B Y.length c']) (by kernel_rfl) ⟨gg.out.drew, KV.out.bel (Bel.refl _).drew⟩ (fun hHeld => ?_)
  (try dsimp only at hHeld)
  have KR := Ho.mk (KR.out.bel (Bel.refl W).drew)
  have lt_bR : bR < W.drew.heap.size := lt_bR
  generalize W.drew = wd at *
  refine rt (i := 1) hHeld ?_
  refine rl (i := 2) (v := ?_) hHeld (fun w hSw => ?_) ?_
  rotate_left
  · (have z0 := hSw.2.cell (i := 0) rfl; have z1 := hSw.2.cell (i := 1) rfl; go_simp; try (with_reducible rfl))
  refine rt (i := 5) hHeld ?_
  refine rl (i := 6) (v := ?_) hHeld (fun w hSw => ?_) ?_
  rotate_left
  · (have z0 := hSw.2.cell (i := 0) rfl; have z1 := hSw.2.cell (i := 1) rfl; go_simp; try (with_reducible rfl))
  try simp only [Act.put, List.setIfInBounds_toArray, List.set_cons_zero, List.set_cons_succ]
  refine I6.rc2 (i := 0) (j := 4) (fun K hK => ?_) (fun K hK => ?_)
  · go_simp
    have le_g0 := hHeld.1.size
    refine hK.out _ _ ⟨Bel.alloc hHeld.1 _, hHeld.2.bel ((Bel.refl _).alloc _)⟩ (fun hHeld => ?_)
    clear hK K
    have L0 := Ho.mk (Blk.new wd [] 50)
    have KR := Ho.mk (KR.out.bel ((Bel.refl wd).alloc (.cells #[] 50)))
    have lt_bR := Nat.lt_of_lt_of_le lt_bR ((Bel.refl wd).alloc (.cells #[] 50)).size
    have lt_g0 : wd.heap.size < (World.alloc wd (.cells #[] 50)).heap.size := by rw [World.size_alloc]; exact Nat.lt_succ_self _
    obtain ⟨g0, hp_g0⟩ : ∃ p, p = wd.heap.size := ⟨_, rfl⟩
    rw [← hp_g0] at L0 le_g0 lt_g0
    rw [← hp_g0]
    have gt_bR_g0 : bR < g0 := by omega
    have ne_bR_g0 : bR ≠ g0 := by omega
    have en_bR_g0 : g0 ≠ bR := by omega
    clear hp_g0
    generalize World.alloc wd (.cells #[] 50) = v1 at *
    try simp only [Act.put, List.setIfInBounds_toArray, List.set_cons_zero, List.set_cons_succ]
    refine I6.rc2 (i := 3) (j := 4) (fun K hK => ?_) (fun K hK => ?_)
    · have IK := I0.out _ hHeld.1
      refine wp_app_in _ _ rfl rfl L0.out rfl IK (by omega) ?_
      intro A0 d0 v2 r0 G0 l0
      have R0 := Ho.mk (RowF.mono (B' := bR + 1) r0 (by omega))
      clear r0 l0 IK
      refine hK.out _ _ ⟨⟨hHeld.1.out.trans ⟨G0.os, G0.tape, G0.output, G0.size, fun i hi => G0.block i (Nat.lt_of_lt_of_le hi hHeld.1.size) (by omega)⟩⟩, G0.blk hHeld.2 (by omega)⟩ (fun hHeld => ?_)
      clear hK K
      have KR := Ho.mk (G0.blk KR.out (by omega))
      have lt_bR := Nat.lt_of_lt_of_le lt_bR G0.size
      have lt_g0 := Nat.lt_of_lt_of_le lt_g0 G0.size
      clear G0
      try simp only [Act.put, List.setIfInBounds_toArray, List.set_cons_zero, List.set_cons_succ]
      refine rc (i := 4) (fun K hK => ?_)
      go_simp
      have le_g1 := hHeld.1.size
      refine hK.out _ _ ⟨Bel.alloc hHeld.1 _, hHeld.2.bel ((Bel.refl _).alloc _)⟩ (fun hHeld => ?_)
      clear hK K
      have L1 := Ho.mk (Blk.new v2 [] 50)
      have KR := Ho.mk (KR.out.bel ((Bel.refl v2).alloc (.cells #[] 50)))
      have R0 := Ho.mk (R0.out.bel ((Bel.refl v2).alloc (.cells #[] 50)))
      have lt_bR := Nat.lt_of_lt_of_le lt_bR ((Bel.refl v2).alloc (.cells #[] 50)).size
      have lt_g0 := Nat.lt_of_lt_of_le lt_g0 ((Bel.refl v2).alloc (.cells #[] 50)).size
      have lt_g1 : v2.heap.size < (World.alloc v2 (.cells #[] 50)).heap.size := by rw [World.size_alloc]; exact Nat.lt_succ_self _
      obtain ⟨g1, hp_g1⟩ : ∃ p, p = v2.heap.size := ⟨_, rfl⟩
      rw [← hp_g1] at L1 le_g1 lt_g1
      rw [← hp_g1]
      have gt_bR_g1 : bR < g1 := by omega
      have ne_bR_g1 : bR ≠ g1 := by omega
      have en_bR_g1 : g1 ≠ bR := by omega
      have gt_g0_g1 : g0 < g1 := by omega
      have ne_g0_g1 : g0 ≠ g1 := by omega
      have en_g0_g1 : g1 ≠ g0 := by omega
      clear hp_g1
      generalize World.alloc v2 (.cells #[] 50) = v3 at *
      try simp only [Act.put, List.setIfInBounds_toArray, List.set_cons_zero, List.set_cons_succ]
      refine rc (i := 7) (fun K hK => ?_)
      have Q0 := R0
      have IK := I1.out _ hHeld.1
      refine wp_app_in _ _ rfl rfl L1.out rfl IK (by omega) ?_
      intro A1 d1 v4 r1 G1 l1
      have NE := Ho.mk (two_lie (c' := d1) Q0.out L1.out l1)
      have R1 := Ho.mk (RowF.mono (B' := bR + 1) r1 (by omega))
      clear r1 l1 IK
      refine hK.out _ _ ⟨⟨hHeld.1.out.trans ⟨G1.os, G1.tape, G1.output, G1.size, fun i hi => G1.block i (Nat.lt_of_lt_of_le hi hHeld.1.size) (by omega)⟩⟩, G1.blk hHeld.2 (by omega)⟩ (fun hHeld => ?_)
      clear hK K
      have KR := Ho.mk (G1.blk KR.out (by omega))
      have R0 := Ho.mk (RowF.grE R0.out G1 L1.out)
      have lt_bR := Nat.lt_of_lt_of_le lt_bR G1.size
      have lt_g0 := Nat.lt_of_lt_of_le lt_g0 G1.size
      have lt_g1 := Nat.lt_of_lt_of_le lt_g1 G1.size
      clear G1
      refine rt (i := 8) hHeld ?_
      try simp only [Act.put, List.setIfInBounds_toArray, List.set_cons_zero, List.set_cons_succ]
      have y0 := KR.out.cell (i := 0) rfl
      have y1 := KR.out.cell (i := 1) rfl
      have x0 := KR.out.free 0
      have x1 := KR.out.free 1
      refine rc (i := 9) (fun K hK => ?_)
      go_simp
      have R0 := Ho.mk (RowF.set2V R0.out KR.out (.slice A0 X.length d0) (.slice A1 Y.length d1))
      have R1 := Ho.mk (RowF.set2V R1.out KR.out (.slice A0 X.length d0) (.slice A1 Y.length d1))
      have KR := Ho.mk ((KR.out.set 0 (.slice A0 X.length d0)).set 1 (.slice A1 Y.length d1))
      simp only [List.set_cons_zero, List.set_cons_succ] at KR
      refine hK.out _ _ ⟨⟨((hHeld.1.out.setCell (p := ⟨bR, 0, none⟩) (by dsimp only; omega) (.slice A0 X.length d0)).setCell (p := ⟨bR, 1, none⟩) (by dsimp only; omega) (.slice A1 Y.length d1))⟩, ((hHeld.2.far (p := ⟨bR, 0, none⟩) (by dsimp only; omega) (.slice A0 X.length d0)).far (p := ⟨bR, 1, none⟩) (by dsimp only; omega) (.slice A1 Y.length d1))⟩ (fun hHeld => ?_)
      clear hK K y0 x0 y1 x1
      have lt_bR : bR < (World.setCell (World.setCell v4 ⟨bR, 0, none⟩ (.slice A0 X.length d0)) ⟨bR, 1, none⟩ (.slice A1 Y.length d1)).heap.size := by simpa [World.setCell] using lt_bR
      have lt_g0 : g0 < (World.setCell (World.setCell v4 ⟨bR, 0, none⟩ (.slice A0 X.length d0)) ⟨bR, 1, none⟩ (.slice A1 Y.length d1)).heap.size := by simpa [World.setCell] using lt_g0
      have lt_g1 : g1 < (World.setCell (World.setCell v4 ⟨bR, 0, none⟩ (.slice A0 X.length d0)) ⟨bR, 1, none⟩ (.slice A1 Y.length d1)).heap.size := by simpa [World.setCell] using lt_g1
      generalize World.setCell (World.setCell v4 ⟨bR, 0, none⟩ (.slice A0 X.length d0)) ⟨bR, 1, none⟩ (.slice A1 Y.length d1) = v5 at *
      try simp only [Act.put, List.setIfInBounds_toArray, List.set_cons_zero, List.set_cons_succ]
      refine wpAnyH_done (by kernel_rfl) ?_ _
      go_wp2_with fail
      refine bodyPost_ret (resV (fn := Tryz.f19) rfl rfl KR.out) rfl ⟨_, _, _, _, rfl, ⟨R0.out.mono (by have := HS.out; omega), R1.out.mono (by have := HS.out; omega), NE.out⟩, hHeld.1⟩
    · go_simp
      have le_g1 := hHeld.1.size
      refine hK.out _ _ ⟨Bel.alloc hHeld.1 _, hHeld.2.bel ((Bel.refl _).alloc _)⟩ (fun hHeld => ?_)
      clear hK K
      have L1 := Ho.mk (Blk.new v1 [] 50)
      have KR := Ho.mk (KR.out.bel ((Bel.refl v1).alloc (.cells #[] 50)))
      have L0 := Ho.mk (L0.out.bel ((Bel.refl v1).alloc (.cells #[] 50)))
      have lt_bR := Nat.lt_of_lt_of_le lt_bR ((Bel.refl v1).alloc (.cells #[] 50)).size
      have lt_g0 := Nat.lt_of_lt_of_le lt_g0 ((Bel.refl v1).alloc (.cells #[] 50)).size
      have lt_g1 : v1.heap.size < (World.alloc v1 (.cells #[] 50)).heap.size := by rw [World.size_alloc]; exact Nat.lt_succ_self _
      obtain ⟨g1, hp_g1⟩ : ∃ p, p = v1.heap.size := ⟨_, rfl⟩
      rw [← hp_g1] at L1 le_g1 lt_g1
      rw [← hp_g1]
      have gt_bR_g1 : bR < g1 := by omega
      have ne_bR_g1 : bR ≠ g1 := by omega
      have en_bR_g1 : g1 ≠ bR := by omega
      have gt_g0_g1 : g0 < g1 := by omega
      have ne_g0_g1 : g0 ≠ g1 := by omega
      have en_g0_g1 : g1 ≠ g0 := by omega
      clear hp_g1
      generalize World.alloc v1 (.cells #[] 50) = v6 at *
      try simp only [Act.put, List.setIfInBounds_toArray, List.set_cons_zero, List.set_cons_succ]
      refine rc (i := 3) (fun K hK => ?_)
      have IK := I0.out _ hHeld.1
      refine wp_app_in _ _ rfl rfl L0.out rfl IK (by omega) ?_
      intro A0 d0 v7 r0 G0 l0
      have R0 := Ho.mk (RowF.mono (B' := bR + 1) r0 (by omega))
      clear r0 l0 IK
      refine hK.out _ _ ⟨⟨hHeld.1.out.trans ⟨G0.os, G0.tape, G0.output, G0.size, fun i hi => G0.block i (Nat.lt_of_lt_of_le hi hHeld.1.size) (by omega)⟩⟩, G0.blk hHeld.2 (by omega)⟩ (fun hHeld => ?_)
      clear hK K
      have KR := Ho.mk (G0.blk KR.out (by omega))
      have L1 := Ho.mk (G0.blk L1.out (by omega))
      have lt_bR := Nat.lt_of_lt_of_le lt_bR G0.size
      have lt_g0 := Nat.lt_of_lt_of_le lt_g0 G0.size
      have lt_g1 := Nat.lt_of_lt_of_le lt_g1 G0.size
      clear G0
      try simp only [Act.put, List.setIfInBounds_toArray, List.set_cons_zero, List.set_cons_succ]
      refine rc (i := 7) (fun K hK => ?_)
      have Q0 := R0
      have IK := I1.out _ hHeld.1
      refine wp_app_in _ _ rfl rfl L1.out rfl IK (by omega) ?_
      intro A1 d1 v8 r1 G1 l1
      have NE := Ho.mk (two_lie (c' := d1) Q0.out L1.out l1)
      have R1 := Ho.mk (RowF.mono (B' := bR + 1) r1 (by omega))
      clear r1 l1 IK
      refine hK.out _ _ ⟨⟨hHeld.1.out.trans ⟨G1.os, G1.tape, G1.output, G1.size, fun i hi => G1.block i (Nat.lt_of_lt_of_le hi hHeld.1.size) (by omega)⟩⟩, G1.blk hHeld.2 (by omega)⟩ (fun hHeld => ?_)
      clear hK K
      have KR := Ho.mk (G1.blk KR.out (by omega))
      have R0 := Ho.mk (RowF.grE R0.out G1 L1.out)
      have lt_bR := Nat.lt_of_lt_of_le lt_bR G1.size
      have lt_g0 := Nat.lt_of_lt_of_le lt_g0 G1.size
      have lt_g1 := Nat.lt_of_lt_of_le lt_g1 G1.size
      clear G1
      refine rt (i := 8) hHeld ?_
      try simp only [Act.put, List.setIfInBounds_toArray, List.set_cons_zero, List.set_cons_succ]
      have y0 := KR.out.cell (i := 0) rfl
      have y1 := KR.out.cell (i := 1) rfl
      have x0 := KR.out.free 0
      have x1 := KR.out.free 1
      refine rc (i := 9) (fun K hK => ?_)
      go_simp
      have R0 := Ho.mk (RowF.set2V R0.out KR.out (.slice A0 X.length d0) (.slice A1 Y.length d1))
      have R1 := Ho.mk (RowF.set2V R1.out KR.out (.slice A0 X.length d0) (.slice A1 Y.length d1))
      have KR := Ho.mk ((KR.out.set 0 (.slice A0 X.length d0)).set 1 (.slice A1 Y.length d1))
      simp only [List.set_cons_zero, List.set_cons_succ] at KR
      refine hK.out _ _ ⟨⟨((hHeld.1.out.setCell (p := ⟨bR, 0, none⟩) (by dsimp only; omega) (.slice A0 X.length d0)).setCell (p := ⟨bR, 1, none⟩) (by dsimp only; omega) (.slice A1 Y.length d1))⟩, ((hHeld.2.far (p := ⟨bR, 0, none⟩) (by dsimp only; omega) (.slice A0 X.length d0)).far (p := ⟨bR, 1, none⟩) (by dsimp only; omega) (.slice A1 Y.length d1))⟩ (fun hHeld => ?_)
      clear hK K y0 x0 y1 x1
      have lt_bR : bR < (World.setCell (World.setCell v8 ⟨bR, 0, none⟩ (.slice A0 X.length d0)) ⟨bR, 1, none⟩ (.slice A1 Y.length d1)).heap.size := by simpa [World.setCell] using lt_bR
      have lt_g0 : g0 < (World.setCell (World.setCell v8 ⟨bR, 0, none⟩ (.slice A0 X.length d0)) ⟨bR, 1, none⟩ (.slice A1 Y.length d1)).heap.size := by simpa [World.setCell] using lt_g0
      have lt_g1 : g1 < (World.setCell (World.setCell v8 ⟨bR, 0, none⟩ (.slice A0 X.length d0)) ⟨bR, 1, none⟩ (.slice A1 Y.length d1)).heap.size := by simpa [World.setCell] using lt_g1
      generalize World.setCell (World.setCell v8 ⟨bR, 0, none⟩ (.slice A0 X.length d0)) ⟨bR, 1, none⟩ (.slice A1 Y.length d1) = v9 at *
      try simp only [Act.put, List.setIfInBounds_toArray, List.set_cons_zero, List.set_cons_succ]
      refine wpAnyH_done (by kernel_rfl) ?_ _
      go_wp2_with fail
      refine bodyPost_ret (resV (fn := Tryz.f19) rfl rfl KR.out) rfl ⟨_, _, _, _, rfl, ⟨R0.out.mono (by have := HS.out; omega), R1.out.mono (by have := HS.out; omega), NE.out⟩, hHeld.1⟩
  · go_simp
    have le_g1 := hHeld.1.size
    refine hK.out _ _ ⟨Bel.alloc hHeld.1 _, hHeld.2.bel ((Bel.refl _).alloc _)⟩ (fun hHeld => ?_)
    clear hK K
    have L1 := Ho.mk (Blk.new wd [] 50)
    have KR := Ho.mk (KR.out.bel ((Bel.refl wd).alloc (.cells #[] 50)))
    have lt_bR := Nat.lt_of_lt_of_le lt_bR ((Bel.refl wd).alloc (.cells #[] 50)).size
    have lt_g1 : wd.heap.size < (World.alloc wd (.cells #[] 50)).heap.size := by rw [World.size_alloc]; exact Nat.lt_succ_self _
    obtain ⟨g1, hp_g1⟩ : ∃ p, p = wd.heap.size := ⟨_, rfl⟩
    rw [← hp_g1] at L1 le_g1 lt_g1
    rw [← hp_g1]
    have gt_bR_g1 : bR < g1 := by omega
    have ne_bR_g1 : bR ≠ g1 := by omega
    have en_bR_g1 : g1 ≠ bR := by omega
    clear hp_g1
    generalize World.alloc wd (.cells #[] 50) = v10 at *
    try simp only [Act.put, List.setIfInBounds_toArray, List.set_cons_zero, List.set_cons_succ]
    refine rc (i := 0) (fun K hK => ?_)
    go_simp
    have le_g0 := hHeld.1.size
    refine hK.out _ _ ⟨Bel.alloc hHeld.1 _, hHeld.2.bel ((Bel.refl _).alloc _)⟩ (fun hHeld => ?_)
    clear hK K
    have L0 := Ho.mk (Blk.new v10 [] 50)
    have KR := Ho.mk (KR.out.bel ((Bel.refl v10).alloc (.cells #[] 50)))
    have L1 := Ho.mk (L1.out.bel ((Bel.refl v10).alloc (.cells #[] 50)))
    have lt_bR := Nat.lt_of_lt_of_le lt_bR ((Bel.refl v10).alloc (.cells #[] 50)).size
    have lt_g1 := Nat.lt_of_lt_of_le lt_g1 ((Bel.refl v10).alloc (.cells #[] 50)).size
    have lt_g0 : v10.heap.size < (World.alloc v10 (.cells #[] 50)).heap.size := by rw [World.size_alloc]; exact Nat.lt_succ_self _
    obtain ⟨g0, hp_g0⟩ : ∃ p, p = v10.heap.size := ⟨_, rfl⟩
    rw [← hp_g0] at L0 le_g0 lt_g0
    rw [← hp_g0]
    have gt_bR_g0 : bR < g0 := by omega
    have ne_bR_g0 : bR ≠ g0 := by omega
    have en_bR_g0 : g0 ≠ bR := by omega
    have gt_g1_g0 : g1 < g0 := by omega
    have ne_g1_g0 : g1 ≠ g0 := by omega
    have en_g1_g0 : g0 ≠ g1 := by omega
    clear hp_g0
    generalize World.alloc v10 (.cells #[] 50) = v11 at *
    try simp only [Act.put, List.setIfInBounds_toArray, List.set_cons_zero, List.set_cons_succ]
    refine rc (i := 3) (fun K hK => ?_)
    have IK := I0.out _ hHeld.1
    refine wp_app_in _ _ rfl rfl L0.out rfl IK (by omega) ?_
    intro A0 d0 v12 r0 G0 l0
    have R0 := Ho.mk (RowF.mono (B' := bR + 1) r0 (by omega))
    clear r0 l0 IK
    refine hK.out _ _ ⟨⟨hHeld.1.out.trans ⟨G0.os, G0.tape, G0.output, G0.size, fun i hi => G0.block i (Nat.lt_of_lt_of_le hi hHeld.1.size) (by omega)⟩⟩, G0.blk hHeld.2 (by omega)⟩ (fun hHeld => ?_)
    clear hK K
    have KR := Ho.mk (G0.blk KR.out (by omega))
    have L1 := Ho.mk (G0.blk L1.out (by omega))
    have lt_bR := Nat.lt_of_lt_of_le lt_bR G0.size
    have lt_g1 := Nat.lt_of_lt_of_le lt_g1 G0.size
    have lt_g0 := Nat.lt_of_lt_of_le lt_g0 G0.size
    clear G0
    try simp only [Act.put, List.setIfInBounds_toArray, List.set_cons_zero, List.set_cons_succ]
    refine rc (i := 7) (fun K hK => ?_)
    have Q0 := R0
    have IK := I1.out _ hHeld.1
    refine wp_app_in _ _ rfl rfl L1.out rfl IK (by omega) ?_
    intro A1 d1 v13 r1 G1 l1
    have NE := Ho.mk (two_lie (c' := d1) Q0.out L1.out l1)
    have R1 := Ho.mk (RowF.mono (B' := bR + 1) r1 (by omega))
    clear r1 l1 IK
    refine hK.out _ _ ⟨⟨hHeld.1.out.trans ⟨G1.os, G1.tape, G1.output, G1.size, fun i hi => G1.block i (Nat.lt_of_lt_of_le hi hHeld.1.size) (by omega)⟩⟩, G1.blk hHeld.2 (by omega)⟩ (fun hHeld => ?_)
    clear hK K
    have KR := Ho.mk (G1.blk KR.out (by omega))
    have R0 := Ho.mk (RowF.grE R0.out G1 L1.out)
    have lt_bR := Nat.lt_of_lt_of_le lt_bR G1.size
    have lt_g1 := Nat.lt_of_lt_of_le lt_g1 G1.size
    have lt_g0 := Nat.lt_of_lt_of_le lt_g0 G1.size
    clear G1
    refine rt (i := 8) hHeld ?_
    try simp only [Act.put, List.setIfInBounds_toArray, List.set_cons_zero, List.set_cons_succ]
    have y0 := KR.out.cell (i := 0) rfl
    have y1 := KR.out.cell (i := 1) rfl
    have x0 := KR.out.free 0
    have x1 := KR.out.free 1
    refine rc (i := 9) (fun K hK => ?_)
    go_simp
    have R0 := Ho.mk (RowF.set2V R0.out KR.out (.slice A0 X.length d0) (.slice A1 Y.length d1))
    have R1 := Ho.mk (RowF.set2V R1.out KR.out (.slice A0 X.length d0) (.slice A1 Y.length d1))
    have KR := Ho.mk ((KR.out.set 0 (.slice A0 X.length d0)).set 1 (.slice A1 Y.length d1))
    simp only [List.set_cons_zero, List.set_cons_succ] at KR
    refine hK.out _ _ ⟨⟨((hHeld.1.out.setCell (p := ⟨bR, 0, none⟩) (by dsimp only; omega) (.slice A0 X.length d0)).setCell (p := ⟨bR, 1, none⟩) (by dsimp only; omega) (.slice A1 Y.length d1))⟩, ((hHeld.2.far (p := ⟨bR, 0, none⟩) (by dsimp only; omega) (.slice A0 X.length d0)).far (p := ⟨bR, 1, none⟩) (by dsimp only; omega) (.slice A1 Y.length d1))⟩ (fun hHeld => ?_)
    clear hK K y0 x0 y1 x1
    have lt_bR : bR < (World.setCell (World.setCell v13 ⟨bR, 0, none⟩ (.slice A0 X.length d0)) ⟨bR, 1, none⟩ (.slice A1 Y.length d1)).heap.size := by simpa [World.setCell] using lt_bR
    have lt_g1 : g1 < (World.setCell (World.setCell v13 ⟨bR, 0, none⟩ (.slice A0 X.length d0)) ⟨bR, 1, none⟩ (.slice A1 Y.length d1)).heap.size := by simpa [World.setCell] using lt_g1
    have lt_g0 : g0 < (World.setCell (World.setCell v13 ⟨bR, 0, none⟩ (.slice A0 X.length d0)) ⟨bR, 1, none⟩ (.slice A1 Y.length d1)).heap.size := by simpa [World.setCell] using lt_g0
    generalize World.setCell (World.setCell v13 ⟨bR, 0, none⟩ (.slice A0 X.length d0)) ⟨bR, 1, none⟩ (.slice A1 Y.length d1) = v14 at *
    try simp only [Act.put, List.setIfInBounds_toArray, List.set_cons_zero, List.set_cons_succ]
    refine wpAnyH_done (by kernel_rfl) ?_ _
    go_wp2_with fail
    refine bodyPost_ret (resV (fn := Tryz.f19) rfl rfl KR.out) rfl ⟨_, _, _, _, rfl, ⟨R0.out.mono (by have := HS.out; omega), R1.out.mono (by have := HS.out; omega), NE.out⟩, hHeld.1⟩
set_option maxRecDepth 100000 in
set_option maxHeartbeats 16000000 in
theorem dSmall {n m c c' : Nat} {A B : Option Addr} (w : World) : Calls Tryz.prog 16 #[.agg #[.slice A n c, .slice B m c']] w (fun e w' => e = .returned (.bool (decide (n ≤ 64 ∧ m ≤ 64))) ∧ Bel w w') := by
  have KV := Ho.mk (Blk.new w [.slice A n c, .slice B m c'] 24)
  have g0 := Ho.mk ((Bel.refl w).alloc (.cells #[.slice A n c, .slice B m c'] 24))
  by_cases hn : n ≤ 64
  all_goals by_cases hm : m ≤ 64
  all_goals
    have e : decide (n ≤ 64 ∧ m ≤ 64) = (decide (n ≤ 64) && decide (m ≤ 64)) := by simp
    rw [e]
    simp only [hn, hm, decide_true, decide_false, Bool.and_true, Bool.and_false, Bool.true_and, Bool.false_and]
    go_enter Tryz.func16, Tryz.ntmps16
    go_upto_region 1 with fail
    generalize w.alloc (.cells #[.slice A n c, .slice B m c'] 24) = W at *
    have y0 := KV.out.cell (i := 0) rfl
    have y1 := KV.out.cell (i := 1) rfl
    go_wp2
    go_ret
    exact ⟨by simp <;> omega, g0.out⟩
end Go.Proofs.YtnbdoidccacdnaaGreatDoor.Pj
namespace Go.Proofs.YtnbdoidccacdnaaGreatDoor.Pk
open Ieee Go Go.RowKit Go.Proofs Go.Proofs.YtnbdoidccacdnaaGreatDoor Ow Dt Gp I0 U0 W0 S4 S6 P0 M0 M1 M2 M3 P4 P5 P6 P8 Pa Pb W4 W5 W1 W2 Pc Pe Pg G1 G3 Ph Go.Proofs.YtnbdoidccacdnaaGreatDoor.Pi Pj
attribute [local go_sem ↓] Go.wp_at_zero Go.wp_at_succ
theorem take_succ_eq {X Y : List Nat} {i : Nat} (h : X.take i = Y.take i) (hx : i < X.length) (hy : i < Y.length) (e : nthN X i = nthN Y i) : X.take (i + 1) = Y.take (i + 1) := by
  rw [List.take_add_one, List.take_add_one, h, List.getElem?_eq_getElem hx, List.getElem?_eq_getElem hy]
  rw [nthN_lt hx, nthN_lt hy] at e
  rw [e]
theorem nth_ne {X Y : List Nat} {i : Nat} (h : nthN X i ≠ nthN Y i) : X ≠ Y := fun e => h (by rw [e])
set_option maxRecDepth 100000 in
set_option maxHeartbeats 16000000 in
theorem dSameRow {A B : Option Addr} {n m c c' : Nat} {X Y : List Nat} (W0 : World) (hx : Fr W0 A X) (hy : Fr W0 B Y) (hn : X.length = n) (hm : Y.length = m) (hl : n ≤ 100000) (hl' : m ≤ 100000) :
    Calls Tryz.prog 44 #[.slice A n c, .slice B m c'] W0 (fun e w' => e = .returned (.bool (decide (X = Y))) ∧ Bel W0 w') := by
  have FX := Ho.mk hx
  have FY := Ho.mk hy
  have HN := Ho.mk hn
  have HM := Ho.mk hm
  clear hx hy hn hm
  by_cases hnm : n = m
  · subst hnm
    go_enter Tryz.func44, Tryz.ntmps44
    go_wp2_with fail
    go_loopw [5] (fun v wr => ∃ (i : Nat), i ≤ n ∧ v = .int .i64 i ∧ Ho (X.take i = Y.take i) ∧ Ho (Bel W0 wr)) (fun v _ => n - (intOf v).toNat)
    case atStart => exact ⟨0, Nat.zero_le _, rfl, ⟨by simp⟩, ⟨Bel.refl _⟩⟩
    case round =>
      obtain ⟨i, hi, rfl, HT, HW⟩ := hrel
      rcases Nat.lt_or_ge i n with hlt | hge
      · obtain ⟨a1, r1, rfl, y1, l1, c1⟩ := FX.out.at_ (i := i) (by rw [HN.out]; exact hlt)
        obtain ⟨a2, r2, rfl, y2, l2, c2⟩ := FY.out.at_ (i := i) (by rw [HM.out]; exact hlt)
        have y1 := HW.out.cell y1
        have y2 := HW.out.cell y2
        have HC := Ho.mk (And.intro c1 c2)
        have HAL := Ho.mk (alike_cn l1 l2)
        clear c1 c2 l1 l2
        by_cases hc : cn r1 = cn r2
        · have RS : Ho (∀ w, Calls Tryz.prog 93 #[.float .f64 r1, .float .f64 r2] w (Quiet w (.bool true))) := ⟨fun w => by have h := rsame_calls r1 r2 w; rw [HAL.out, decide_eq_true hc] at h; exact h⟩
          have HCC := Ho.mk hc
          clear hc
          go_upto_region 6 with fail
          refine wp_region_held_drew (S := fun w' => Bel wr w') (by kernel_rfl) (Bel.refl _).drew (fun hHeld => ?_)
          (try dsimp only at hHeld)
          generalize wr.drew = wd at *
          refine rt (i := 0) hHeld ?_
          refine rt (i := 1) hHeld ?_
          refine rt (i := 2) hHeld ?_
          refine rl (i := 3) (v := ?_) hHeld (fun w hSw => ?_) ?_
          rotate_left
          · (have z0 := hSw.cell y1; have z1 := hSw.cell y2; go_simp; try (with_reducible rfl))
          refine rt (i := 4) hHeld ?_
          refine rt (i := 5) hHeld ?_
          refine rt (i := 6) hHeld ?_
          refine rl (i := 7) (v := ?_) hHeld (fun w hSw => ?_) ?_
          rotate_left
          · (have z0 := hSw.cell y1; have z1 := hSw.cell y2; go_simp; try (with_reducible rfl))
          try simp only [Act.put, List.setIfInBounds_toArray, List.set_cons_zero, List.set_cons_succ]
          refine rc (i := 8) (fun K hK => ?_)
          go_simp
          go_at_call 93
          (with_reducible refine (RS.out _).mono ?_); rintro e v1 ⟨rfl, hz⟩
          have bv1 : Bel wd v1 := by rw [hz]; exact Bel.refl _
          clear hz
          try go_wp2_with fail
          refine hK.out _ _ (Bel.trans hHeld bv1) (fun hHeld => ?_)
          clear hK K
          clear bv1
          refine rt (i := 9) hHeld ?_
          try simp only [Act.put, List.setIfInBounds_toArray, List.set_cons_zero, List.set_cons_succ]
          refine wpAnyH_done (by kernel_rfl) ?_ _
          have HB := Ho.mk (HW.out.trans hHeld)
          clear hHeld
          go_wp2
          go_roundw
          case rel =>
            exact ⟨i + 1, by omega, by simp, ⟨take_succ_eq HT.out (by rw [HN.out]; exact hlt) (by rw [HM.out]; exact hlt) (by rw [← HC.out.1, ← HC.out.2]; exact HCC.out)⟩, HB⟩
          case measure => simp [intOf]; omega
        · have RS : Ho (∀ w, Calls Tryz.prog 93 #[.float .f64 r1, .float .f64 r2] w (Quiet w (.bool false))) := ⟨fun w => by have h := rsame_calls r1 r2 w; rw [HAL.out, decide_eq_false hc] at h; exact h⟩
          have HCC := Ho.mk hc
          clear hc
          go_upto_region 6 with fail
          refine wp_region_held_drew (S := fun w' => Bel wr w') (by kernel_rfl) (Bel.refl _).drew (fun hHeld => ?_)
          (try dsimp only at hHeld)
          generalize wr.drew = wd at *
          refine rt (i := 0) hHeld ?_
          refine rt (i := 1) hHeld ?_
          refine rt (i := 2) hHeld ?_
          refine rl (i := 3) (v := ?_) hHeld (fun w hSw => ?_) ?_
          rotate_left
          · (have z0 := hSw.cell y1; have z1 := hSw.cell y2; go_simp; try (with_reducible rfl))
          refine rt (i := 4) hHeld ?_
          refine rt (i := 5) hHeld ?_
          refine rt (i := 6) hHeld ?_
          refine rl (i := 7) (v := ?_) hHeld (fun w hSw => ?_) ?_
          rotate_left
          · (have z0 := hSw.cell y1; have z1 := hSw.cell y2; go_simp; try (with_reducible rfl))
          try simp only [Act.put, List.setIfInBounds_toArray, List.set_cons_zero, List.set_cons_succ]
          refine rc (i := 8) (fun K hK => ?_)
          go_simp
          go_at_call 93
          (with_reducible refine (RS.out _).mono ?_); rintro e v1 ⟨rfl, hz⟩
          have bv1 : Bel wd v1 := by rw [hz]; exact Bel.refl _
          clear hz
          try go_wp2_with fail
          refine hK.out _ _ (Bel.trans hHeld bv1) (fun hHeld => ?_)
          clear hK K
          clear bv1
          refine rt (i := 9) hHeld ?_
          try simp only [Act.put, List.setIfInBounds_toArray, List.set_cons_zero, List.set_cons_succ]
          refine wpAnyH_done (by kernel_rfl) ?_ _
          have HB := Ho.mk (HW.out.trans hHeld)
          clear hHeld
          go_wp2
          go_ret
          exact ⟨by rw [decide_eq_false (nth_ne (i := i) (by rw [← HC.out.1, ← HC.out.2]; exact HCC.out))]; rfl, HB.out⟩
      · obtain rfl : i = n := by omega
        go_wp2
        go_ret
        refine ⟨?_, HW.out⟩
        have := HT.out
        rw [List.take_of_length_le (by rw [HN.out]; exact Nat.le_refl _), List.take_of_length_le (by rw [HM.out]; exact Nat.le_refl _)] at this
        rw [decide_eq_true this]; rfl
  · have hne : ¬ (n : Int) = (m : Int) := by omega
    go_enter Tryz.func44, Tryz.ntmps44
    go_wp2
    all_goals first
      | (exfalso; omega)
      | (go_ret; exact ⟨by rw [decide_eq_false (fun e => hnm (by rw [← HN.out, ← HM.out, e]))]; rfl, Bel.refl _⟩)
theorem dSameRowI {u v : Value} {X Y : List Nat} (w : World) (hx : In w u X) (hy : In w v Y) (hl : X.length ≤ 100000) (hl' : Y.length ≤ 100000) :
    Calls Tryz.prog 44 #[u, v] w (fun e w' => e = .returned (.bool (decide (X = Y))) ∧ Bel w w') := by
  obtain ⟨A, c, rfl, _, _, h1, _⟩ := hx.out
  obtain ⟨B, d, rfl, _, _, h2, _⟩ := hy.out
  exact dSameRow w h1 h2 rfl rfl hl hl'
set_option maxRecDepth 100000 in
set_option maxHeartbeats 16000000 in
theorem dSame {A1 B1 A2 B2 : Option Addr} {c1 d1 c2 d2 : Nat} {X1 Y1 X2 Y2 : List Nat} (w : World) (hx : In w (.slice A1 X1.length c1) X1) (hy : In w (.slice B1 Y1.length d1) Y1) (hx2 : In w (.slice A2 X2.length c2) X2) (hy2 : In w (.slice B2 Y2.length d2) Y2)
    (l1 : X1.length ≤ 100000) (l2 : Y1.length ≤ 100000) (l3 : X2.length ≤ 100000) (l4 : Y2.length ≤ 100000) :
    Calls Tryz.prog 21 #[.agg #[.slice A1 X1.length c1, .slice B1 Y1.length d1], .agg #[.slice A2 X2.length c2, .slice B2 Y2.length d2]] w (fun e w' => e = .returned (.bool (decide (X1 = X2 ∧ Y1 = Y2))) ∧ Bel w w') := by
  have S1 := Ho.mk (fun w' (g : Bel w w') => dSameRowI w' (hx.bel g) (hx2.bel g) l1 l3)
  have S2 := Ho.mk (fun w' (g : Bel w w') => dSameRowI w' (hy.bel g) (hy2.bel g) l2 l4)
  have KV := Ho.mk ((Blk.new w [.slice A1 X1.length c1, .slice B1 Y1.length d1] 24).old (.cells #[.slice A2 X2.length c2, .slice B2 Y2.length d2] 24))
  have KU := Ho.mk (Blk.new (w.alloc (.cells #[.slice A1 X1.length c1, .slice B1 Y1.length d1] 24)) [.slice A2 X2.length c2, .slice B2 Y2.length d2] 24)
  have g0 := Ho.mk (((Bel.refl w).alloc (.cells #[.slice A1 X1.length c1, .slice B1 Y1.length d1] 24)).alloc (.cells #[.slice A2 X2.length c2, .slice B2 Y2.length d2] 24))
  rw [World.size_alloc] at KU
  clear hx hy hx2 hy2
  go_enter Tryz.func21, Tryz.ntmps21
  go_upto_region 1 with fail
  generalize (w.alloc (.cells #[.slice A1 X1.length c1, .slice B1 Y1.length d1] 24)).alloc (.cells #[.slice A2 X2.length c2, .slice B2 Y2.length d2] 24) = W at *
  have y0 := KV.out.cell (i := 0) rfl
  have y1 := KV.out.cell (i := 1) rfl
  have y2 := KU.out.cell (i := 0) rfl
  have y3 := KU.out.cell (i := 1) rfl
  by_cases e1 : X1 = X2
  · have d1' : decide (X1 = X2 ∧ Y1 = Y2) = decide (Y1 = Y2) := by simp [e1]
    have d2' : decide (X1 = X2) = true := decide_eq_true e1
    have D1 := Ho.mk d1'
    rw [d2'] at S1
    clear d1' d2' e1
    go_wp2_with (first | (go_at_call 44; first | ((with_reducible refine (S1.out _ g0.out).mono ?_); rintro e w1 ⟨rfl, b1⟩; have y0 := b1.cell y0; have y1 := b1.cell y1; have y2 := b1.cell y2; have y3 := b1.cell y3) | ((with_reducible refine (S2.out _ (g0.out.trans b1)).mono ?_); rintro e w2 ⟨rfl, b2⟩)) | fail)
    go_ret
    exact ⟨by rw [D1.out]; rfl, (g0.out.trans b1).trans b2⟩
  · have d1' : decide (X1 = X2 ∧ Y1 = Y2) = false := by simp [e1]
    have d2' : decide (X1 = X2) = false := decide_eq_false e1
    have D1 := Ho.mk d1'
    rw [d2'] at S1
    clear d1' d2' e1
    go_wp2_with (go_at_call 44; (with_reducible refine (S1.out _ g0.out).mono ?_); rintro e w1 ⟨rfl, b1⟩)
    go_ret
    exact ⟨by rw [D1.out]; rfl, g0.out.trans b1⟩
end Go.Proofs.YtnbdoidccacdnaaGreatDoor.Pk
namespace Go.Proofs.YtnbdoidccacdnaaGreatDoor.Lv
open Ieee Go Go.RowKit Go.Proofs Go.Proofs.YtnbdoidccacdnaaGreatDoor Ow Dt Gp I0 U0 W0 S4 S6 P0 M0 M1 M2 M3 P4 P5 P6 P8 Pa Pb W4 W5 W1 W2 Pc Pe Pg Ph Go.Proofs.YtnbdoidccacdnaaGreatDoor.Pi Pj Pk
theorem litRow {w : World} {b n : Nat} {cs : List Value} {X : List Nat} (K : Blk w b 50 cs) (hc : cs = X.map (.float .f64)) (hX : X.all (fun x => decide (x < 2 * sgnW) && (cn x == x)) = true) (hn : X.length = n) (hl : n ≤ 1000) : RowF w b (.slice (some ⟨b, 0, none⟩) n n) X := by
  subst hc; subst hn
  have hx : ∀ x ∈ X, x < 2 * sgnW ∧ cn x = x := fun x h => by
    have := List.all_eq_true.1 hX x h
    simpa using this
  exact RowF.of ⟨_, K, fun j hj => ⟨.float .f64 X[j], by simp [hj], X[j], rfl, (hx _ (List.getElem_mem hj)).1, by rw [nthN_lt hj]; exact (hx _ (List.getElem_mem hj)).2⟩⟩ (Nat.le_refl _) (Nat.le_refl _) (Nat.le_trans hl (by decide))
theorem In.len {w : World} {A : Option Addr} {n c : Nat} {X : List Nat} (h : In w (.slice A n c) X) : n = X.length := by
  obtain ⟨A1, c1, e, _⟩ := h.out
  cases e; rfl
theorem RowF.len {w : World} {B : Nat} {A : Option Addr} {n c : Nat} {X : List Nat} (h : RowF w B (.slice A n c) X) : n = X.length := by
  obtain ⟨A1, c1, e, _⟩ := h.out
  cases e; rfl
theorem inn {w : World} {B : Nat} {v : Value} {X : List Nat} (h : RowF w B v X) (hm : X.length ≤ 100000) : In w v X := RowF.inn h (by omega)
theorem in_nil (w : World) (A : Option Addr) : In w (.slice none 0 0) [] := ⟨none, 0, rfl, Nat.le_refl _, by decide, Fr.nil _ _, fun _ => rfl⟩
section
variable {A B : Option Addr} {n m c c' : Nat} {X Y : List Nat} {w : World}
theorem pIfft (T : Tab w) (hx : In w (.slice A n c) X) (hy : In w (.slice B m c') Y) (hl : X.length ≤ 128) (hl' : Y.length ≤ 128) {X' Y' : List Nat} {z : Int} (h1 : (X', Y') = ifR X Y) (h2 : z = errR X Y) :
    Calls Tryz.prog 17 #[.agg #[.slice A n c, .slice B m c']] w (MakesVE w X' Y' z) := by
  obtain rfl := In.len hx; obtain rfl := In.len hy
  have h := dIfft w T hx hy hl hl'
  rw [← h1, ← h2] at h; exact h
theorem pConj (T : Tab w) (hx : In w (.slice A n c) X) (hy : In w (.slice B m c') Y) (hl : X.length ≤ 128) (hl' : Y.length ≤ 128) {Y' : List Nat} (h1 : Y' = Y.map fng) :
    Calls Tryz.prog 22 #[.agg #[.slice A n c, .slice B m c']] w (MakesV w X Y') := by
  obtain rfl := In.len hx; obtain rfl := In.len hy
  have h := dConj w T hx hy hl hl'
  rw [← h1] at h; exact h
theorem pSwap (hx : In w (.slice A n c) X) (hy : In w (.slice B m c') Y) (hl : X.length ≤ 128) (hl' : Y.length ≤ 128) :
    Calls Tryz.prog 24 #[.agg #[.slice A n c, .slice B m c']] w (MakesV w Y X) := by
  obtain rfl := In.len hx; obtain rfl := In.len hy
  exact dSwapV w hx hy hl hl'
theorem pOwn (hx : In w (.slice A n c) X) (hy : In w (.slice B m c') Y) (hl : X.length ≤ 100000) (hl' : Y.length ≤ 100000) :
    Calls Tryz.prog 19 #[.agg #[.slice A n c, .slice B m c']] w (MakesV w X Y) := by
  obtain rfl := In.len hx; obtain rfl := In.len hy
  exact dOwnL w hx hy hl hl'
theorem pSame {A2 B2 : Option Addr} {n2 m2 c2 d2 : Nat} {X2 Y2 : List Nat} {z : Bool} (hx : In w (.slice A n c) X) (hy : In w (.slice B m c') Y) (hx2 : In w (.slice A2 n2 c2) X2) (hy2 : In w (.slice B2 m2 d2) Y2)
    (l1 : X.length ≤ 100000) (l2 : Y.length ≤ 100000) (l3 : X2.length ≤ 100000) (l4 : Y2.length ≤ 100000) (hz : z = decide (X = X2 ∧ Y = Y2)) :
    Calls Tryz.prog 21 #[.agg #[.slice A n c, .slice B m c'], .agg #[.slice A2 n2 c2, .slice B2 m2 d2]] w (fun e w' => e = .returned (.bool z) ∧ Bel w w') := by
  obtain rfl := In.len hx; obtain rfl := In.len hy; obtain rfl := In.len hx2; obtain rfl := In.len hy2
  rw [hz]
  exact dSame w hx hy hx2 hy2 l1 l2 l3 l4
theorem pInto {fn : Nat} {R : List Nat → List Nat → List Nat × List Nat} (hI : IntoSaid fn R) (hR : ∀ X Y, (R X Y).1.length = X.length ∧ (R X Y).2.length = Y.length) {D : Nat} (T : Tab w) (tw : Two w D (.slice A n c) (.slice B m c') X Y) (hl : X.length ≤ 128) (hl' : Y.length ≤ 128) (hD : D ≤ w.heap.size) {X' Y' : List Nat} {z : Int} (h1 : (X', Y') = R X Y) (h2 : z = errR X Y) :
    Calls Tryz.prog fn #[.agg #[.slice A n c, .slice B m c']] w fun e w' => e = .returned (.int .i64 z) ∧ Two w' D (.slice A n c) (.slice B m c') X' Y' ∧ Frm A B n m w w' := by
  obtain rfl := RowF.len tw.one; obtain rfl := RowF.len tw.two
  have h := hI w D c c' A B X Y T tw hl hl' hD
  rw [← h1, ← h2] at h; exact h
theorem frmBlk {w' : World} {D k : Nat} {t : TypeId} {cs : List Value} (g : Frm A B n m w w') (tw : Two w D (.slice A n c) (.slice B m c') X Y) (K : Blk w k t cs) (hk : ∀ b, D ≤ b → Fz w b X ∨ Fz w b Y → k ≠ b) : Blk w' k t cs := by
  obtain rfl := RowF.len tw.one; obtain rfl := RowF.len tw.two
  exact g.blk tw K hk
theorem frmVec {w' : World} {D k : Nat} {cs : List Value} (g : Frm A B n m w w') (tw : Two w D (.slice A n c) (.slice B m c') X Y) (K : Blk w k 24 cs) : Blk w' k 24 cs :=
  frmBlk g tw K (fun b _ hf => by rcases hf with hf | hf <;> exact vec_ne K hf)
theorem frmBel {W0 w' : World} {D : Nat} (g : Frm A B n m w w') (tw : Two w D (.slice A n c) (.slice B m c') X Y) (h : Bel W0 w) (hB : W0.heap.size ≤ D) : Bel W0 w' := by
  obtain rfl := RowF.len tw.one; obtain rfl := RowF.len tw.two
  exact g.bel tw h hB
end
theorem two_lits {w : World} {b1 b2 D n m c d : Nat} {X Y : List Nat} (h1 : RowF w b1 (.slice (some ⟨b1, 0, none⟩) n c) X) (h2 : RowF w b2 (.slice (some ⟨b2, 0, none⟩) m d) Y) (ne : b1 ≠ b2) (l1 : D ≤ b1) (l2 : D ≤ b2) : Two w D (.slice (some ⟨b1, 0, none⟩) n c) (.slice (some ⟨b2, 0, none⟩) m d) X Y :=
  ⟨h1.mono l1, h2.mono l2, fun _ _ _ _ _ _ _ _ e e' _ _ => by cases e; cases e'; exact ne⟩
end Go.Proofs.YtnbdoidccacdnaaGreatDoor.Lv
