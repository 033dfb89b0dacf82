/-
  Joined, of what this claim leans on: P1, P2, M0, M1, M2, W1, W2, M3, W4, W5, Yh, Yi, P3, P4, P5, P6, P7, P8, Pc, Pe, Pg, Y3, Y4, Po, Y1.
-/
import Derived.OrdersIn
import Derived.OwnWalkIn
import Derived.RangeFuncCalls
import Derived.OrdersHeld
import Derived.Laws.Cover2
import Derived.RegionIn
import Derived.Test.YtnbdoidccacdnaaGreatDoorJRfftScale5
set_option linter.unusedVariables false
set_option linter.unusedSimpArgs false
set_option maxRecDepth 100000
set_option maxHeartbeats 16000000
namespace Go.Proofs.YtnbdoidccacdnaaGreatDoor
namespace P1
open Ieee Go Go.RowKit Go.Proofs Go.Proofs.YtnbdoidccacdnaaGreatDoor Ow Pl Gp F1 I0 W0 S3 S4 P0
attribute [local go_sem ↓] Go.wp_at_zero Go.wp_at_succ
theorem resPP {fn : Func} {p q : Tmp} {tmps : Array Value} {w : World} {b b' : Nat} {v0 v1 u0 u1 : Value} (hf : fn.results = #[.cell p 141, .cell q 141]) (hp : tmps.getD p undef = .pointer (some ⟨b, 0, none⟩)) (hq : tmps.getD q undef = .pointer (some ⟨b', 0, none⟩)) (h : Blk w b 141 [v0, v1]) (h' : Blk w b' 141 [u0, u1]) :
  (results fn tmps).run Tryz.prog w = .ok (.tuple #[.agg #[v0, v1], .agg #[u0, u1]]) w := by
 have y0 := h.cell (i := 0) rfl
 have y1 := h.cell (i := 1) rfl
 have x0 := h'.cell (i := 0) rfl
 have x1 := h'.cell (i := 1) rfl
 have hp2 := hp
 have hq2 := hq
 rw [Array.getD_eq_getD_getElem?] at hp2 hq2
 simp [results, hf, hp2, hq2, go_sem, y0, y1, x0, x1]
def TellsBy (W0 : World) (a b c d : Nat) (e : Ending) (w' : World) : Prop :=
 ∃ r s t u, e = .returned (.tuple #[.agg #[.float .f64 r, .float .f64 s], .agg #[.float .f64 t, .float .f64 u]]) ∧ ((r < 2 * sgnW ∧ s < 2 * sgnW) ∧ (t < 2 * sgnW ∧ u < 2 * sgnW)) ∧ ((cn r = fmul a c ∧ cn s = fmul a d) ∧ (cn t = fmul b d ∧ cn u = fmul b c)) ∧ Bel W0 w'
theorem dBy {a b c d : Nat} (w : World) (ha : a < 2 * sgnW) (hb : b < 2 * sgnW) (hc : c < 2 * sgnW) (hd : d < 2 * sgnW) :
  Calls Tryz.prog 160 #[.agg #[.float .f64 a, .float .f64 b], .agg #[.float .f64 c, .float .f64 d]] w (TellsBy w (cn a) (cn b) (cn c) (cn d)) := by
 have F1 := Ho.mk (fun w => dOMul w ha hc)
 have F2 := Ho.mk (fun w => dOMul w ha hd)
 have F3 := Ho.mk (fun w => dOMul w hb hd)
 have F4 := Ho.mk (fun w => dOMul w hb hc)
 clear ha hb hc hd
 go_enter Tryz.func160, Tryz.ntmps160
 go_wp2_with fail
 have KP := Ho.mk ((((Blk.new w [.float .f64 a, .float .f64 b] 141).old (.cells #[.float .f64 c, .float .f64 d] 141)).old (.cells #[.float .f64 0, .float .f64 0] 141)).old (.cells #[.float .f64 0, .float .f64 0] 141))
 have KQ := Ho.mk (((Blk.new (w.alloc (.cells #[.float .f64 a, .float .f64 b] 141)) [.float .f64 c, .float .f64 d] 141).old (.cells #[.float .f64 0, .float .f64 0] 141)).old (.cells #[.float .f64 0, .float .f64 0] 141))
 rw [World.size_alloc] at KQ
 have KR := Ho.mk ((Blk.new ((w.alloc (.cells #[.float .f64 a, .float .f64 b] 141)).alloc (.cells #[.float .f64 c, .float .f64 d] 141)) [.float .f64 0, .float .f64 0] 141).old (.cells #[.float .f64 0, .float .f64 0] 141))
 rw [World.size_alloc, World.size_alloc] at KR
 have KS := Ho.mk (Blk.new (((w.alloc (.cells #[.float .f64 a, .float .f64 b] 141)).alloc (.cells #[.float .f64 c, .float .f64 d] 141)).alloc (.cells #[.float .f64 0, .float .f64 0] 141)) [.float .f64 0, .float .f64 0] 141)
 rw [World.size_alloc, World.size_alloc, World.size_alloc] at KS
 have g0 := Ho.mk (((((Bel.refl w).alloc (.cells #[.float .f64 a, .float .f64 b] 141)).alloc (.cells #[.float .f64 c, .float .f64 d] 141)).alloc (.cells #[.float .f64 0, .float .f64 0] 141)).alloc (.cells #[.float .f64 0, .float .f64 0] 141))
 have hS : ((((w.alloc (.cells #[.float .f64 a, .float .f64 b] 141)).alloc (.cells #[.float .f64 c, .float .f64 d] 141)).alloc (.cells #[.float .f64 0, .float .f64 0] 141)).alloc (.cells #[.float .f64 0, .float .f64 0] 141)).heap.size = w.heap.size + 1 + 1 + 1 + 1 := by simp only [World.size_alloc]
 generalize ((((w.alloc (.cells #[.float .f64 a, .float .f64 b] 141)).alloc (.cells #[.float .f64 c, .float .f64 d] 141)).alloc (.cells #[.float .f64 0, .float .f64 0] 141)).alloc (.cells #[.float .f64 0, .float .f64 0] 141)) = W at *
 refine wp_region_held_drew (S := fun w' => Blk w' (w.heap.size) 141 [.float .f64 a, .float .f64 b] ∧ Blk w' (w.heap.size + 1) 141 [.float .f64 c, .float .f64 d]) (by kernel_rfl) ⟨KP.out.bel (Bel.refl _).drew, KQ.out.bel (Bel.refl _).drew⟩ (fun hHeld => ?_)
 (try dsimp only at hHeld)
 refine rt (i := 0) hHeld ?_
 refine rl (i := 1) (v := ?_) hHeld (fun w hSw => ?_) ?_
 rotate_left
 ·(have z := hSw.1.cell (i := 0) rfl; go_simp; try (with_reducible rfl))
 refine rt (i := 2) hHeld ?_
 refine rl (i := 3) (v := ?_) hHeld (fun w hSw => ?_) ?_
 rotate_left
 ·(have z := hSw.2.cell (i := 0) rfl; go_simp; try (with_reducible rfl))
 refine rt (i := 5) hHeld ?_
 refine rl (i := 6) (v := ?_) hHeld (fun w hSw => ?_) ?_
 rotate_left
 ·(have z := hSw.1.cell (i := 0) rfl; go_simp; try (with_reducible rfl))
 refine rt (i := 7) hHeld ?_
 refine rl (i := 8) (v := ?_) hHeld (fun w hSw => ?_) ?_
 rotate_left
 ·(have z := hSw.2.cell (i := 1) rfl; go_simp; try (with_reducible rfl))
 refine rt (i := 11) hHeld ?_
 refine rl (i := 12) (v := ?_) hHeld (fun w hSw => ?_) ?_
 rotate_left
 ·(have z := hSw.1.cell (i := 1) rfl; go_simp; try (with_reducible rfl))
 refine rt (i := 13) hHeld ?_
 refine rl (i := 14) (v := ?_) hHeld (fun w hSw => ?_) ?_
 rotate_left
 ·(have z := hSw.2.cell (i := 1) rfl; go_simp; try (with_reducible rfl))
 refine rt (i := 16) hHeld ?_
 refine rl (i := 17) (v := ?_) hHeld (fun w hSw => ?_) ?_
 rotate_left
 ·(have z := hSw.1.cell (i := 1) rfl; go_simp; try (with_reducible rfl))
 refine rt (i := 18) hHeld ?_
 refine rl (i := 19) (v := ?_) hHeld (fun w hSw => ?_) ?_
 rotate_left
 ·(have z := hSw.2.cell (i := 0) rfl; go_simp; try (with_reducible rfl))
 try simp only [Act.put, List.setIfInBounds_toArray, List.set_cons_zero, List.set_cons_succ]
 refine rc (i := 4) (fun K hK => ?_)
 go_simp
 go_at_call 108
 (with_reducible refine (F1.out _).mono ?_); rintro e w1 ⟨r1, rfl, l1, c1, b1⟩
 try go_wp2_with fail
 refine hK.out _ _ ⟨hHeld.1.bel b1, hHeld.2.bel b1⟩ (fun hHeld => ?_)
 clear hK K
 try simp only [Act.put, List.setIfInBounds_toArray, List.set_cons_zero, List.set_cons_succ]
 refine rc (i := 9) (fun K hK => ?_)
 go_simp
 go_at_call 108
 (with_reducible refine (F2.out _).mono ?_); rintro e w2 ⟨r2, rfl, l2, c2, b2⟩
 try go_wp2_with fail
 refine hK.out _ _ ⟨hHeld.1.bel b2, hHeld.2.bel b2⟩ (fun hHeld => ?_)
 clear hK K
 refine rt (i := 10) hHeld ?_
 try simp only [Act.put, List.setIfInBounds_toArray, List.set_cons_zero, List.set_cons_succ]
 refine rc (i := 15) (fun K hK => ?_)
 go_simp
 go_at_call 108
 (with_reducible refine (F3.out _).mono ?_); rintro e w3 ⟨r3, rfl, l3, c3, b3⟩
 try go_wp2_with fail
 refine hK.out _ _ ⟨hHeld.1.bel b3, hHeld.2.bel b3⟩ (fun hHeld => ?_)
 clear hK K
 try simp only [Act.put, List.setIfInBounds_toArray, List.set_cons_zero, List.set_cons_succ]
 refine rc (i := 20) (fun K hK => ?_)
 go_simp
 go_at_call 108
 (with_reducible refine (F4.out _).mono ?_); rintro e w4 ⟨r4, rfl, l4, c4, b4⟩
 try go_wp2_with fail
 refine hK.out _ _ ⟨hHeld.1.bel b4, hHeld.2.bel b4⟩ (fun hHeld => ?_)
 clear hK K
 refine rt (i := 21) hHeld ?_
 have bb := Ho.mk ((((((Bel.refl W).drew).trans b1).trans b2).trans b3).trans b4)
 have KR := Ho.mk (KR.out.bel bb.out)
 have KS := Ho.mk (KS.out.bel bb.out)
 have g2 := Ho.mk (g0.out.trans bb.out)
 clear bb
 have y0 := KR.out.cell (i := 0) rfl
 have y1 := KR.out.cell (i := 1) rfl
 have z0 := KR.out.free 0
 have z1 := KR.out.free 1
 have x0 := KS.out.cell (i := 0) rfl
 have x1 := KS.out.cell (i := 1) rfl
 have v0 := KS.out.free 0
 have v1 := KS.out.free 1
 try simp only [Act.put, List.setIfInBounds_toArray, List.set_cons_zero, List.set_cons_succ]
 refine rc (i := 22) (fun K hK => ?_)
 go_simp
 refine hK.out _ _ ⟨((hHeld.1.far (p := ⟨w.heap.size + 1 + 1, 0, none⟩) (by dsimp only; omega) (.float .f64 r1)).far (p := ⟨w.heap.size + 1 + 1, 1, none⟩) (by dsimp only; omega) (.float .f64 r2)), ((hHeld.2.far (p := ⟨w.heap.size + 1 + 1, 0, none⟩) (by dsimp only; omega) (.float .f64 r1)).far (p := ⟨w.heap.size + 1 + 1, 1, none⟩) (by dsimp only; omega) (.float .f64 r2))⟩ (fun hHeld => ?_)
 clear hK K
 have KS := Ho.mk ((KS.out.far (p := ⟨w.heap.size + 1 + 1, 0, none⟩) (by dsimp only; omega) (.float .f64 r1)).far (p := ⟨w.heap.size + 1 + 1, 1, none⟩) (by dsimp only; omega) (.float .f64 r2))
 have KR := Ho.mk ((KR.out.set 0 (.float .f64 r1)).set 1 (.float .f64 r2))
 have g3 := Ho.mk ((g2.out.out.setCell (p := ⟨w.heap.size + 1 + 1, 0, none⟩) (by dsimp only; omega) (.float .f64 r1)).setCell (p := ⟨w.heap.size + 1 + 1, 1, none⟩) (by dsimp only; omega) (.float .f64 r2))
 simp only [List.set_cons_zero, List.set_cons_succ] at KR
 clear x0 x1 y0 y1 z0 z1 v0 v1
 generalize (w4.setCell ⟨w.heap.size + 1 + 1, 0, none⟩ (.float .f64 r1)).setCell ⟨w.heap.size + 1 + 1, 1, none⟩ (.float .f64 r2) = W9 at *
 have x0 := KS.out.cell (i := 0) rfl
 have x1 := KS.out.cell (i := 1) rfl
 have v0 := KS.out.free 0
 have v1 := KS.out.free 1
 try simp only [Act.put, List.setIfInBounds_toArray, List.set_cons_zero, List.set_cons_succ]
 refine rc (i := 23) (fun K hK => ?_)
 go_simp
 refine hK.out _ _ ⟨((hHeld.1.far (p := ⟨w.heap.size + 1 + 1 + 1, 0, none⟩) (by dsimp only; omega) (.float .f64 r3)).far (p := ⟨w.heap.size + 1 + 1 + 1, 1, none⟩) (by dsimp only; omega) (.float .f64 r4)), ((hHeld.2.far (p := ⟨w.heap.size + 1 + 1 + 1, 0, none⟩) (by dsimp only; omega) (.float .f64 r3)).far (p := ⟨w.heap.size + 1 + 1 + 1, 1, none⟩) (by dsimp only; omega) (.float .f64 r4))⟩ (fun hHeld => ?_)
 clear hK K
 try simp only [Act.put, List.setIfInBounds_toArray, List.set_cons_zero, List.set_cons_succ]
 refine wpAnyH_done (by kernel_rfl) ?_ _
 go_wp2
 exact bodyPost_ret (resPP (fn := Tryz.f160) rfl rfl rfl ((KR.out.far (p := ⟨w.heap.size + 1 + 1 + 1, 0, none⟩) (by dsimp only; omega) (.float .f64 r3)).far (p := ⟨w.heap.size + 1 + 1 + 1, 1, none⟩) (by dsimp only; omega) (.float .f64 r4)) ((KS.out.set 0 (.float .f64 r3)).set 1 (.float .f64 r4))) rfl ⟨r1, r2, r3, r4, rfl, ⟨⟨l1, l2⟩, ⟨l3, l4⟩⟩, ⟨⟨c1, c2⟩, ⟨c3, c4⟩⟩, ⟨((g3.out.setCell (p := ⟨w.heap.size + 1 + 1 + 1, 0, none⟩) (by dsimp only; omega) (.float .f64 r3)).setCell (p := ⟨w.heap.size + 1 + 1 + 1, 1, none⟩) (by dsimp only; omega) (.float .f64 r4))⟩⟩
theorem dTurnP {a b c d : Nat} (w : World) (ha : a < 2 * sgnW) (hb : b < 2 * sgnW) (hc : c < 2 * sgnW) (hd : d < 2 * sgnW) :
  Calls Tryz.prog 133 #[.agg #[.float .f64 a, .float .f64 b], .agg #[.float .f64 c, .float .f64 d]] w (TellsP w (fadd (fmul (cn a) (cn c)) (fmul (cn b) (cn d)), fsub (fmul (cn b) (cn c)) (fmul (cn a) (cn d)))) := by
 have BY := Ho.mk (fun w => dBy w ha hb hc hd)
 clear ha hb hc hd
 go_enter Tryz.func133, Tryz.ntmps133
 have KP := Ho.mk (((Blk.new w [.float .f64 a, .float .f64 b] 141).old (.cells #[.float .f64 c, .float .f64 d] 141)).old (.cells #[.float .f64 0, .float .f64 0] 141))
 have KQ := Ho.mk ((Blk.new (w.alloc (.cells #[.float .f64 a, .float .f64 b] 141)) [.float .f64 c, .float .f64 d] 141).old (.cells #[.float .f64 0, .float .f64 0] 141))
 rw [World.size_alloc] at KQ
 have KR := Ho.mk (Blk.new ((w.alloc (.cells #[.float .f64 a, .float .f64 b] 141)).alloc (.cells #[.float .f64 c, .float .f64 d] 141)) [.float .f64 0, .float .f64 0] 141)
 rw [World.size_alloc, World.size_alloc] at KR
 have g0 := Ho.mk ((((Bel.refl w).alloc (.cells #[.float .f64 a, .float .f64 b] 141)).alloc (.cells #[.float .f64 c, .float .f64 d] 141)).alloc (.cells #[.float .f64 0, .float .f64 0] 141))
 have hS : (((w.alloc (.cells #[.float .f64 a, .float .f64 b] 141)).alloc (.cells #[.float .f64 c, .float .f64 d] 141)).alloc (.cells #[.float .f64 0, .float .f64 0] 141)).heap.size = w.heap.size + 1 + 1 + 1 := by simp only [World.size_alloc]
 go_upto_region 1 with fail
 generalize (((w.alloc (.cells #[.float .f64 a, .float .f64 b] 141)).alloc (.cells #[.float .f64 c, .float .f64 d] 141)).alloc (.cells #[.float .f64 0, .float .f64 0] 141)) = W at *
 have x0 := KP.out.cell (i := 0) rfl
 have x1 := KP.out.cell (i := 1) rfl
 have y0 := KQ.out.cell (i := 0) rfl
 have y1 := KQ.out.cell (i := 1) rfl
 go_wp2_with fail
 (with_reducible refine (BY.out _).mono ?_); rintro e w5 ⟨r, s, t, u, rfl, l5, c5, b5⟩
 have KR := Ho.mk (KR.out.bel b5)
 have g2 := Ho.mk (g0.out.trans b5)
 clear x0 x1 y0 y1 b5 KP KQ
 go_upto_region 2 with fail
 have KX := Ho.mk ((Blk.new w5 [.float .f64 r, .float .f64 s] 141).old (.cells #[.float .f64 t, .float .f64 u] 141))
 have KY := Ho.mk (Blk.new (w5.alloc (.cells #[.float .f64 r, .float .f64 s] 141)) [.float .f64 t, .float .f64 u] 141)
 rw [World.size_alloc] at KY
 have KR := Ho.mk ((KR.out.old (.cells #[.float .f64 r, .float .f64 s] 141)).old (.cells #[.float .f64 t, .float .f64 u] 141))
 have g3 := Ho.mk ((g2.out.alloc (.cells #[.float .f64 r, .float .f64 s] 141)).alloc (.cells #[.float .f64 t, .float .f64 u] 141))
 have A1 := Ho.mk (fun w => dOAdd w l5.1.1 l5.2.1)
 have A2 := Ho.mk (fun w => dOSub w l5.2.2 l5.1.2)
 have C5 := Ho.mk c5
 clear l5 c5 g2
 generalize (w5.alloc (.cells #[.float .f64 r, .float .f64 s] 141)).alloc (.cells #[.float .f64 t, .float .f64 u] 141) = W3 at *
 have x0 := KX.out.cell (i := 0) rfl
 have x1 := KX.out.cell (i := 1) rfl
 have y0 := KY.out.cell (i := 0) rfl
 have y1 := KY.out.cell (i := 1) rfl
 refine I7.wp_region_late 11 (S := fun w' => Bel W3 w') (by kernel_rfl) (Bel.refl _).drew (fun hHeld => ?_)
 (try dsimp only at hHeld)
 refine I7.kt (i := 0) hHeld ?_
 refine I7.kl (i := 1) (v := ?_) hHeld (fun w hSw => ?_) ?_
 rotate_left
 ·(have z0 := hSw.cell x0; go_simp; try (with_reducible rfl))
 refine I7.kt (i := 2) hHeld ?_
 refine I7.kl (i := 3) (v := ?_) hHeld (fun w hSw => ?_) ?_
 rotate_left
 ·(have z0 := hSw.cell y0; go_simp; try (with_reducible rfl))
 refine I7.kt (i := 5) hHeld ?_
 refine I7.kl (i := 6) (v := ?_) hHeld (fun w hSw => ?_) ?_
 rotate_left
 ·(have z0 := hSw.cell y1; go_simp; try (with_reducible rfl))
 refine I7.kt (i := 7) hHeld ?_
 refine I7.kl (i := 8) (v := ?_) hHeld (fun w hSw => ?_) ?_
 rotate_left
 ·(have z0 := hSw.cell x1; go_simp; try (with_reducible rfl))
 try simp only [Act.put, List.setIfInBounds_toArray, List.set_cons_zero, List.set_cons_succ]
 refine I7.kc (i := 4) (fun K hK => ?_)
 go_simp
 go_at_call 154
 (with_reducible refine (A1.out _).mono ?_); rintro e w6 ⟨r6, rfl, l6, c6, b6⟩
 try go_wp2_with fail
 refine hK.out _ _ (Bel.trans hHeld b6) (fun hHeld => ?_)
 clear hK K
 try simp only [Act.put, List.setIfInBounds_toArray, List.set_cons_zero, List.set_cons_succ]
 refine I7.kc (i := 9) (fun K hK => ?_)
 go_simp
 go_at_call 155
 (with_reducible refine (A2.out _).mono ?_); rintro e w7 ⟨r7, rfl, l7, c7, b7⟩
 try go_wp2_with fail
 refine hK.out _ _ (Bel.trans hHeld b7) (fun hHeld => ?_)
 clear hK K
 refine I7.kt (i := 10) hHeld ?_
 have KR := Ho.mk (KR.out.bel hHeld)
 have g4 := Ho.mk (g3.out.trans hHeld)
 clear x0 x1 y0 y1 hHeld
 have y0 := KR.out.cell (i := 0) rfl
 have y1 := KR.out.cell (i := 1) rfl
 have z0 := KR.out.free 0
 have z1 := KR.out.free 1
 try simp only [Act.put, List.setIfInBounds_toArray, List.set_cons_zero, List.set_cons_succ]
 refine I7.ke (i := 11) (fun K hK => ?_)
 go_simp
 refine hK.out _ _ ?_
 clear hK K
 try simp only [Act.put, List.setIfInBounds_toArray, List.set_cons_zero, List.set_cons_succ]
 refine wpAny_done (by kernel_rfl) ?_ _
 go_wp2
 exact bodyPost_ret (resP (fn := Tryz.f133) rfl rfl ((KR.out.set 0 (.float .f64 r6)).set 1 (.float .f64 r7))) rfl ⟨r6, r7, rfl, ⟨l6, l7⟩, ⟨by rw [c6, C5.out.1.1, C5.out.2.1], by rw [c7, C5.out.2.2, C5.out.1.2]⟩, ⟨((g4.out.out.setCell (p := ⟨w.heap.size + 1 + 1, 0, none⟩) (by dsimp only; omega) (.float .f64 r6)).setCell (p := ⟨w.heap.size + 1 + 1, 1, none⟩) (by dsimp only; omega) (.float .f64 r7))⟩⟩
theorem dTold {a b c d fn : Nat} {p : Nat × Nat} (w : World) (hfn : fn = 124 ∨ fn = 125 ∨ fn = 133)
  (BY : ∀ w, Calls Tryz.prog fn #[.agg #[.float .f64 a, .float .f64 b], .agg #[.float .f64 c, .float .f64 d]] w (TellsP w p)) :
  Calls Tryz.prog 123 #[.func (.func fn) #[] #[], .float .f64 a, .float .f64 b, .float .f64 c, .float .f64 d] w (Tells2 w p) := by
 have BB := Ho.mk BY
 clear BY
 rcases hfn with rfl | rfl | rfl
 all_goals
  go_enter Tryz.func123, Tryz.ntmps123
  go_wp2_with fail
  (with_reducible refine (BB.out _).mono ?_); rintro e w5 ⟨r, s, rfl, l5, c5, b5⟩
  have KX := Ho.mk (Blk.new w5 [.float .f64 r, .float .f64 s] 141)
  have g2 := Ho.mk (b5.alloc (.cells #[.float .f64 r, .float .f64 s] 141))
  have HH := Ho.mk (And.intro l5 c5)
  clear l5 c5 b5
  have y0 := KX.out.cell (i := 0) rfl
  have y1 := KX.out.cell (i := 1) rfl
  go_upto_region 2 with fail
  generalize w5.alloc (.cells #[.float .f64 r, .float .f64 s] 141) = W3 at *
  go_region
  go_wp2
  go_ret2
  exact ⟨r, s, rfl, HH.out.1, HH.out.2, g2.out.drew⟩
end P1
namespace P2
open Ieee Go Go.RowKit Go.Proofs Go.Proofs.YtnbdoidccacdnaaGreatDoor Ow Pl Gp F1 I0 W0 S3 S4 P0 P1
attribute [local go_sem ↓] Go.wp_at_zero Go.wp_at_succ
theorem dCAdd {a b c d : Nat} (w : World) (ha : a < 2 * sgnW) (hb : b < 2 * sgnW) (hc : c < 2 * sgnW) (hd : d < 2 * sgnW) :
  Calls Tryz.prog 81 #[.float .f64 a, .float .f64 b, .float .f64 c, .float .f64 d] w (Tells2 w (fadd (cn a) (cn c), fadd (cn b) (cn d))) := by
 have TD := Ho.mk (fun w => dTold w (.inl rfl) (fun w => dPAdd w ha hb hc hd))
 clear ha hb hc hd
 go_enter Tryz.func81, Tryz.ntmps81
 go_wp2_with fail
 (with_reducible refine (TD.out _).mono ?_); rintro e w5 ⟨r, s, rfl, l5, c5, b5⟩
 go_wp2
 go_ret2
 exact ⟨r, s, rfl, l5, c5, b5⟩
theorem dCSub {a b c d : Nat} (w : World) (ha : a < 2 * sgnW) (hb : b < 2 * sgnW) (hc : c < 2 * sgnW) (hd : d < 2 * sgnW) :
  Calls Tryz.prog 82 #[.float .f64 a, .float .f64 b, .float .f64 c, .float .f64 d] w (Tells2 w (fsub (cn a) (cn c), fsub (cn b) (cn d))) := by
 have TD := Ho.mk (fun w => dTold w (.inr (.inl rfl)) (fun w => dPSub w ha hb hc hd))
 clear ha hb hc hd
 go_enter Tryz.func82, Tryz.ntmps82
 go_wp2_with fail
 (with_reducible refine (TD.out _).mono ?_); rintro e w5 ⟨r, s, rfl, l5, c5, b5⟩
 go_wp2
 go_ret2
 exact ⟨r, s, rfl, l5, c5, b5⟩
theorem dCTurn {a b c d : Nat} (w : World) (ha : a < 2 * sgnW) (hb : b < 2 * sgnW) (hc : c < 2 * sgnW) (hd : d < 2 * sgnW) :
  Calls Tryz.prog 86 #[.float .f64 a, .float .f64 b, .float .f64 c, .float .f64 d] w (Tells2 w (fadd (fmul (cn a) (cn c)) (fmul (cn b) (cn d)), fsub (fmul (cn b) (cn c)) (fmul (cn a) (cn d)))) := by
 have TD := Ho.mk (fun w => dTold w (.inr (.inr rfl)) (fun w => dTurnP w ha hb hc hd))
 clear ha hb hc hd
 go_enter Tryz.func86, Tryz.ntmps86
 go_wp2_with fail
 (with_reducible refine (TD.out _).mono ?_); rintro e w5 ⟨r, s, rfl, l5, c5, b5⟩
 go_wp2
 go_ret2
 exact ⟨r, s, rfl, l5, c5, b5⟩
end P2
namespace M0
structure Ops (α : Type) where
 add : α → α → α
 sub : α → α → α
 mul : α → α → α
 neg : α → α
 lit : Nat → α
def loopN {σ : Type} (f : Nat → σ → σ) : Nat → σ → σ
 | 0, s => s
 | k + 1, s => f k (loopN f k s)
section
variable {α : Type} (O : Ops α)
def nthG (l : List α) (i : Nat) : α := l.getD i (O.lit 0)
def cadd (x y a b : α) : α × α := (O.add x a, O.add y b)
def csub (x y a b : α) : α × α := (O.sub x a, O.sub y b)
def cturn (a b c s : α) : α × α := (O.add (O.mul a c) (O.mul b s), O.sub (O.mul b c) (O.mul a s))
def halfW : Nat := 4602678819172646912
def swapAt (l : List α) (k a : Nat) : List α := if k < a then (l.set k (nthG O l a)).set a (nthG O l k) else l
def swapG (order : List Nat) (l : List α) : List α := loopN (fun k l => swapAt O l k (order.getD k 0)) order.length l
def mstep (from_ half : Nat) (tw : Nat → Nat × Nat) (k : Nat) (st : List α × List α) : List α × List α :=
 let a := nthG O st.1 (from_ + half + k)
 let b := nthG O st.2 (from_ + half + k)
 let t := if k = 0 then (a, b) else cturn O a b (O.lit (tw k).1) (O.lit (tw k).2)
 let x := nthG O st.1 (from_ + k)
 let y := nthG O st.2 (from_ + k)
 ((st.1.set (from_ + k) (O.add x t.1)).set (from_ + half + k) (O.sub x t.1), (st.2.set (from_ + k) (O.add y t.2)).set (from_ + half + k) (O.sub y t.2))
def mergeG (from_ half : Nat) (tw : Nat → Nat × Nat) (st : List α × List α) : List α × List α := loopN (mstep O from_ half tw) half st
def stageG (half many : Nat) (tw : Nat → Nat × Nat) (st : List α × List α) : List α × List α := loopN (fun i st => mergeG O (i * (2 * half)) half tw st) many st
def intoG (order : List Nat) (p : Nat) (tab : Nat → Nat × Nat) (st : List α × List α) : List α × List α :=
 loopN (fun q st => stageG O (2 ^ q) (2 ^ (p - (q + 1))) (fun k => tab (k * 2 ^ (p - (q + 1)))) st) p (swapG O order st.1, swapG O order st.2)
end
def bitsStep (p k : Nat) (l : List Nat) : List Nat := if 0 < k then l.set k (l.getD (k / 2) 0 / 2 + k % 2 * 2 ^ (p - 1)) else l
def bitsG (p : Nat) : List Nat := loopN (bitsStep p) (2 ^ p) (List.replicate (2 ^ p) 0)
end M0
namespace M1
open M0
variable {α : Type} (O : Ops α)
theorem loopN_succ {σ : Type} (f : Nat → σ → σ) (k : Nat) (s : σ) : loopN f (k + 1) s = f k (loopN f k s) := rfl
theorem loopN_congr {σ : Type} {f g : Nat → σ → σ} (n : Nat) (s : σ) (h : ∀ k, k < n → ∀ s, f k s = g k s) : loopN f n s = loopN g n s := by
 induction n with
 | zero => rfl
 | succ n ih => rw [loopN_succ, loopN_succ, ih (fun k hk => h k (by omega)), h n (by omega)]
theorem loopN_inv {σ : Type} {f : Nat → σ → σ} {I : Nat → σ → Prop} (n : Nat) {s : σ} (h0 : I 0 s) (h : ∀ k s, k < n → I k s → I (k + 1) (f k s)) : I n (loopN f n s) := by
 induction n with
 | zero => exact h0
 | succ n ih => exact h n _ (by omega) (ih fun k s hk => h k s (by omega))
theorem nthG_lt {l : List α} {i : Nat} (h : i < l.length) : nthG O l i = l[i] := by simp [nthG, h]
theorem nthG_set (l : List α) (i : Nat) (x : α) (j : Nat) : nthG O (l.set i x) j = if i = j ∧ i < l.length then x else nthG O l j := by
 simp only [nthG, List.getD_eq_getElem?_getD, List.getElem?_set]
 by_cases h : i = j
 ·subst h
  by_cases h2 : i < l.length
  ·simp [h2]
  ·simp [h2]
 ·simp [h]
theorem ext_nth {a b : List α} (hl : a.length = b.length) (h : ∀ i, i < a.length → nthG O a i = nthG O b i) : a = b := by
 apply List.ext_getElem hl
 intro i h1 h2
 have := h i h1
 rwa [nthG_lt O h1, nthG_lt O h2] at this
theorem nthG_app (a b : List α) (i : Nat) : nthG O (a ++ b) i = if i < a.length then nthG O a i else nthG O b (i - a.length) := by
 simp only [nthG, List.getD_eq_getElem?_getD, List.getElem?_append]
 split <;> rfl
theorem nthG_map (f : Nat → α) {n i : Nat} (h : i < n) : nthG O ((List.range n).map f) i = f i := by
 rw [nthG_lt O (by simpa using h)]; simp
def tw1 (tw : Nat → Nat × Nat) (k : Nat) (a b : α) : α × α := if k = 0 then (a, b) else cturn O a b (O.lit (tw k).1) (O.lit (tw k).2)
def mergeAt (f half : Nat) (tw : Nat → Nat × Nat) (X Y : Nat → α) (i : Nat) : α × α :=
 if f ≤ i ∧ i < f + half then cadd O (X i) (Y i) (tw1 O tw (i - f) (X (i + half)) (Y (i + half))).1 (tw1 O tw (i - f) (X (i + half)) (Y (i + half))).2
 else if f + half ≤ i ∧ i < f + 2 * half then csub O (X (i - half)) (Y (i - half)) (tw1 O tw (i - f - half) (X i) (Y i)).1 (tw1 O tw (i - f - half) (X i) (Y i)).2
 else (X i, Y i)
def mergeK (f half k : Nat) (tw : Nat → Nat × Nat) (X Y : Nat → α) (i : Nat) : α × α :=
 if f ≤ i ∧ i < f + k then cadd O (X i) (Y i) (tw1 O tw (i - f) (X (i + half)) (Y (i + half))).1 (tw1 O tw (i - f) (X (i + half)) (Y (i + half))).2
 else if f + half ≤ i ∧ i < f + half + k then csub O (X (i - half)) (Y (i - half)) (tw1 O tw (i - f - half) (X i) (Y i)).1 (tw1 O tw (i - f - half) (X i) (Y i)).2
 else (X i, Y i)
theorem mergeG_at (f half : Nat) (tw : Nat → Nat × Nat) (st : List α × List α) (h1 : f + 2 * half ≤ st.1.length) (h2 : f + 2 * half ≤ st.2.length) :
  (mergeG O f half tw st).1.length = st.1.length ∧ (mergeG O f half tw st).2.length = st.2.length ∧
  ∀ i, (nthG O (mergeG O f half tw st).1 i, nthG O (mergeG O f half tw st).2 i) = mergeAt O f half tw (nthG O st.1) (nthG O st.2) i := by
 have key := loopN_inv (f := mstep O f half tw) (I := fun k s => s.1.length = st.1.length ∧ s.2.length = st.2.length ∧ ∀ i, (nthG O s.1 i, nthG O s.2 i) = mergeK O f half k tw (nthG O st.1) (nthG O st.2) i) half (s := st)
  ⟨rfl, rfl, fun i => by unfold mergeK; rw [if_neg (by omega), if_neg (by omega)]⟩ (by
  rintro k s hk ⟨l1, l2, h⟩
  refine ⟨by simp [mstep, l1], by simp [mstep, l2], fun i => ?_⟩
  have ea : (nthG O s.1 (f + half + k), nthG O s.2 (f + half + k)) = (nthG O st.1 (f + half + k), nthG O st.2 (f + half + k)) := by
   rw [h, mergeK, if_neg (by omega), if_neg (by omega)]
  have ex : (nthG O s.1 (f + k), nthG O s.2 (f + k)) = (nthG O st.1 (f + k), nthG O st.2 (f + k)) := by
   rw [h, mergeK, if_neg (by omega), if_neg (by omega)]
  simp only [Prod.mk.injEq] at ea ex
  have et : (if k = 0 then (nthG O s.1 (f + half + k), nthG O s.2 (f + half + k)) else cturn O (nthG O s.1 (f + half + k)) (nthG O s.2 (f + half + k)) (O.lit (tw k).1) (O.lit (tw k).2)) = tw1 O tw k (nthG O st.1 (f + half + k)) (nthG O st.2 (f + half + k)) := by
   rw [ea.1, ea.2]; rfl
  simp only [mstep, et, ex.1, ex.2]
  simp only [nthG_set, List.length_set, l1, l2]
  have hi := h i
  by_cases c1 : f + half + k = i
  ·subst c1
   simp only [show f + half + k < st.1.length from by omega, show f + half + k < st.2.length from by omega, and_self, if_true]
   rw [mergeK, if_neg (by omega), if_pos (by omega)]
   rw [show f + half + k - half = f + k from by omega, show f + half + k - f - half = k from by omega]; rfl
  ·simp only [c1, false_and, if_false]
   by_cases c2 : f + k = i
   ·subst c2
    simp only [show f + k < st.1.length from by omega, show f + k < st.2.length from by omega, and_self, if_true]
    rw [mergeK, if_pos (by omega)]
    rw [show f + k + half = f + half + k from by omega, show f + k - f = k from by omega]; rfl
   ·simp only [c2, false_and, if_false]
    rw [hi]
    unfold mergeK
    by_cases d1 : f ≤ i ∧ i < f + k
    ·rw [if_pos d1, if_pos (show f ≤ i ∧ i < f + (k + 1) by omega)]
    ·rw [if_neg d1, if_neg (show ¬ (f ≤ i ∧ i < f + (k + 1)) by omega)]
     by_cases d2 : f + half ≤ i ∧ i < f + half + k
     ·rw [if_pos d2, if_pos (show f + half ≤ i ∧ i < f + half + (k + 1) by omega)]
     ·rw [if_neg d2, if_neg (show ¬ (f + half ≤ i ∧ i < f + half + (k + 1)) by omega)])
 obtain ⟨a, b, c⟩ := key
 refine ⟨a, b, fun i => (c i).trans ?_⟩
 unfold mergeK mergeAt
 rw [show f + half + half = f + 2 * half from by omega]
def stageAt (half : Nat) (tw : Nat → Nat × Nat) (X Y : Nat → α) (i : Nat) : α × α :=
 if i % (2 * half) < half then cadd O (X i) (Y i) (tw1 O tw (i % (2 * half)) (X (i + half)) (Y (i + half))).1 (tw1 O tw (i % (2 * half)) (X (i + half)) (Y (i + half))).2
 else csub O (X (i - half)) (Y (i - half)) (tw1 O tw (i % (2 * half) - half) (X i) (Y i)).1 (tw1 O tw (i % (2 * half) - half) (X i) (Y i)).2
theorem stageG_at (half many : Nat) (hp : 0 < half) (tw : Nat → Nat × Nat) (st : List α × List α) (h1 : many * (2 * half) ≤ st.1.length) (h2 : many * (2 * half) ≤ st.2.length) :
  (stageG O half many tw st).1.length = st.1.length ∧ (stageG O half many tw st).2.length = st.2.length ∧
  ∀ i, (nthG O (stageG O half many tw st).1 i, nthG O (stageG O half many tw st).2 i) = if i < many * (2 * half) then stageAt O half tw (nthG O st.1) (nthG O st.2) i else (nthG O st.1 i, nthG O st.2 i) := by
 refine loopN_inv (f := fun i st => mergeG O (i * (2 * half)) half tw st) (I := fun k s => s.1.length = st.1.length ∧ s.2.length = st.2.length ∧ ∀ i, (nthG O s.1 i, nthG O s.2 i) = if i < k * (2 * half) then stageAt O half tw (nthG O st.1) (nthG O st.2) i else (nthG O st.1 i, nthG O st.2 i)) many (s := st)
  ⟨rfl, rfl, fun i => by rw [if_neg (by omega)]⟩ ?_
 rintro k s hk ⟨l1, l2, h⟩
 have hle : (k + 1) * (2 * half) ≤ many * (2 * half) := Nat.mul_le_mul_right _ hk
 rw [Nat.succ_mul k] at hle
 obtain ⟨m1, m2, m⟩ := mergeG_at O (k * (2 * half)) half tw s (by omega) (by omega)
 refine ⟨m1.trans l1, m2.trans l2, fun i => (m i).trans ?_⟩
 rw [Nat.succ_mul k]
 have far : ∀ j, k * (2 * half) ≤ j → nthG O s.1 j = nthG O st.1 j ∧ nthG O s.2 j = nthG O st.2 j := fun j hj => by
  have := h j
  rw [if_neg (by omega)] at this
  simpa using this
 have hi := h i
 generalize hF : k * (2 * half) = F at *
 have hmod : ∀ r, r < 2 * half → i = F + r → i % (2 * half) = r := fun r hr e => by
  rw [e, ← hF, Nat.mul_comm, Nat.mul_add_mod, Nat.mod_eq_of_lt hr]
 unfold mergeAt
 by_cases c1 : F ≤ i ∧ i < F + half
 ·have e := hmod (i - F) (by omega) (by omega)
  rw [if_pos c1, if_pos (by omega), stageAt, e, if_pos (by omega), (far i (by omega)).1, (far i (by omega)).2, (far (i + half) (by omega)).1, (far (i + half) (by omega)).2]
 ·rw [if_neg c1]
  by_cases c2 : F + half ≤ i ∧ i < F + 2 * half
  ·have e := hmod (i - F) (by omega) (by omega)
   rw [if_pos c2, if_pos (by omega), stageAt, e, if_neg (by omega), (far i (by omega)).1, (far i (by omega)).2, (far (i - half) (by omega)).1, (far (i - half) (by omega)).2]
  ·rw [if_neg c2, hi]
   by_cases c3 : i < F
   ·rw [if_pos c3, if_pos (by omega)]
   ·rw [if_neg c3, if_neg (by omega)]
theorem stageG_congr (half many : Nat) {tw tw' : Nat → Nat × Nat} (h : ∀ k, k < half → tw k = tw' k) (st : List α × List α) : stageG O half many tw st = stageG O half many tw' st := by
 refine loopN_congr _ _ fun i _ s => loopN_congr _ _ fun k hk s => ?_
 unfold mstep
 simp only [h k hk]
def stages (p : Nat) (tw : Nat → Nat → Nat × Nat) (n : Nat) (st : List α × List α) : List α × List α := loopN (fun q st => stageG O (2 ^ q) (2 ^ (p - (q + 1))) (tw q) st) n st
theorem pow_split {p q : Nat} (h : q < p) : 2 ^ (p - (q + 1)) * (2 * 2 ^ q) = 2 ^ p := by
 rw [← Nat.pow_succ', ← Nat.pow_add]; congr 1; omega
theorem stages_len {p : Nat} (tw : Nat → Nat → Nat × Nat) {st : List α × List α} (h1 : st.1.length = 2 ^ p) (h2 : st.2.length = 2 ^ p) {n : Nat} (hn : n ≤ p) :
  (stages O p tw n st).1.length = 2 ^ p ∧ (stages O p tw n st).2.length = 2 ^ p := by
 refine loopN_inv (I := fun k (s : List α × List α) => s.1.length = 2 ^ p ∧ s.2.length = 2 ^ p) n ⟨h1, h2⟩ ?_
 rintro q s hq ⟨a, b⟩
 have e := pow_split (show q < p by omega)
 obtain ⟨x, y, _⟩ := stageG_at O (2 ^ q) (2 ^ (p - (q + 1))) (Nat.two_pow_pos q) (tw q) s (by omega) (by omega)
 exact ⟨x.trans a, y.trans b⟩
def appP (x y : List α × List α) : List α × List α := (x.1 ++ y.1, x.2 ++ y.2)
theorem stage_app (p q : Nat) (hq : q < p) (tw : Nat → Nat × Nat) (x y : List α × List α) (h1 : x.1.length = 2 ^ p) (h2 : x.2.length = 2 ^ p) (h3 : y.1.length = 2 ^ p) (h4 : y.2.length = 2 ^ p) :
  stageG O (2 ^ q) (2 ^ (p + 1 - (q + 1))) tw (appP x y) = appP (stageG O (2 ^ q) (2 ^ (p - (q + 1))) tw x) (stageG O (2 ^ q) (2 ^ (p - (q + 1))) tw y) := by
 have e1 := pow_split (show q < p + 1 by omega)
 have e2 := pow_split hq
 have e3 : 2 ^ (p + 1) = 2 ^ p + 2 ^ p := by rw [Nat.pow_succ]; omega
 have hpos := Nat.two_pow_pos q
 obtain ⟨a1, a2, a⟩ := stageG_at O (2 ^ q) (2 ^ (p + 1 - (q + 1))) hpos tw (appP x y) (by simp only [appP, List.length_append]; rw [e1]; omega) (by simp only [appP, List.length_append]; rw [e1]; omega)
 obtain ⟨b1, b2, b⟩ := stageG_at O (2 ^ q) (2 ^ (p - (q + 1))) hpos tw x (by omega) (by omega)
 obtain ⟨c1, c2, c⟩ := stageG_at O (2 ^ q) (2 ^ (p - (q + 1))) hpos tw y (by omega) (by omega)
 rw [e1] at a
 rw [e2] at b c
 have hdvd : 2 ^ p % (2 * 2 ^ q) = 0 := by rw [← e2]; exact Nat.mul_mod_left _ _
 generalize stageG O (2 ^ q) (2 ^ (p + 1 - (q + 1))) tw (appP x y) = A at *
 generalize stageG O (2 ^ q) (2 ^ (p - (q + 1))) tw x = B at *
 generalize stageG O (2 ^ q) (2 ^ (p - (q + 1))) tw y = C at *
 generalize hH : 2 ^ q = H at *
 generalize hN : 2 ^ p = N at *
 have key : ∀ i, i < 2 ^ (p + 1) → (nthG O A.1 i, nthG O A.2 i) = (nthG O (appP B C).1 i, nthG O (appP B C).2 i) := fun i hi => by
  rw [a i, if_pos hi]
  have hnA : ∀ j, nthG O (appP x y).1 j = if j < N then nthG O x.1 j else nthG O y.1 (j - N) := fun j => by simp only [appP]; rw [nthG_app, h1]
  have hnB : ∀ j, nthG O (appP x y).2 j = if j < N then nthG O x.2 j else nthG O y.2 (j - N) := fun j => by simp only [appP]; rw [nthG_app, h2]
  have hnC : nthG O (appP B C).1 i = if i < N then nthG O B.1 i else nthG O C.1 (i - N) := by simp only [appP]; rw [nthG_app, b1, h1]
  have hnD : nthG O (appP B C).2 i = if i < N then nthG O B.2 i else nthG O C.2 (i - N) := by simp only [appP]; rw [nthG_app, b2, h2]
  rw [hnC, hnD]
  -- the place within its merge
  have hr : i % (2 * H) < 2 * H := Nat.mod_lt _ (by omega)
  by_cases c0 : i < N
  ·rw [if_pos c0, if_pos c0, b i, if_pos c0]
   unfold stageAt
   have hin : i - i % (2 * H) + 2 * H ≤ N := by
    have hd : N / (2 * H) * (2 * H) = N := Nat.div_mul_cancel (Nat.dvd_of_mod_eq_zero hdvd)
    have hi2 : i - i % (2 * H) = i / (2 * H) * (2 * H) := by have := Nat.div_add_mod' i (2 * H); omega
    have hlt : i / (2 * H) < N / (2 * H) := by
     apply Nat.lt_of_mul_lt_mul_right (a := 2 * H)
     rw [hd]; have := Nat.div_mul_le_self i (2 * H); omega
    have hm : (i / (2 * H) + 1) * (2 * H) ≤ N / (2 * H) * (2 * H) := Nat.mul_le_mul_right _ hlt
    rw [Nat.succ_mul (i / (2 * H))] at hm; omega
   have hle := Nat.mod_le i (2 * H)
   by_cases cr : i % (2 * H) < H
   ·rw [if_pos cr, if_pos cr, hnA, hnB, hnA, hnB, if_pos c0, if_pos c0, if_pos (by omega), if_pos (by omega)]
   ·rw [if_neg cr, if_neg cr, hnA, hnB, hnA, hnB, if_pos c0, if_pos c0, if_pos (by omega), if_pos (by omega)]
  ·rw [if_neg c0, if_neg c0, c (i - N), if_pos (by omega)]
   have em : (i - N) % (2 * H) = i % (2 * H) := by
    have hd : N / (2 * H) * (2 * H) = N := Nat.div_mul_cancel (Nat.dvd_of_mod_eq_zero hdvd)
    have : i % (2 * H) = ((i - N) + N / (2 * H) * (2 * H)) % (2 * H) := by rw [hd]; congr 1; omega
    rw [this, Nat.add_mul_mod_self_right]
   have hle := Nat.mod_le (i - N) (2 * H)
   unfold stageAt
   rw [em]
   by_cases cr : i % (2 * H) < H
   ·rw [if_pos cr, if_pos cr, hnA, hnB, hnA, hnB, if_neg c0, if_neg c0, if_neg (by omega), if_neg (by omega), show i + H - N = i - N + H from by omega]
   ·rw [if_neg cr, if_neg cr, hnA, hnB, hnA, hnB, if_neg c0, if_neg c0, if_neg (by omega), if_neg (by omega), show i - H - N = i - N - H from by omega]
 have lA : A.1.length = 2 ^ (p + 1) := by rw [a1]; simp [appP]; omega
 have lB : A.2.length = 2 ^ (p + 1) := by rw [a2]; simp [appP]; omega
 apply Prod.ext
 ·refine ext_nth O (by rw [lA]; simp [appP]; omega) fun i hi => ?_
  have := key i (by omega); simp only [Prod.mk.injEq] at this; exact this.1
 ·refine ext_nth O (by rw [lB]; simp [appP]; omega) fun i hi => ?_
  have := key i (by omega); simp only [Prod.mk.injEq] at this; exact this.2
theorem stages_app (p : Nat) (tw : Nat → Nat → Nat × Nat) (x y : List α × List α) (h1 : x.1.length = 2 ^ p) (h2 : x.2.length = 2 ^ p) (h3 : y.1.length = 2 ^ p) (h4 : y.2.length = 2 ^ p) (n : Nat) (hn : n ≤ p) :
  stages O (p + 1) tw n (appP x y) = appP (stages O p tw n x) (stages O p tw n y) := by
 induction n with
 | zero => rfl
 | succ n ih =>
  have a := stages_len O tw h1 h2 (show n ≤ p by omega)
  have b := stages_len O tw h3 h4 (show n ≤ p by omega)
  have ih' := ih (by omega)
  unfold stages at ih' ⊢
  rw [loopN_succ, loopN_succ, loopN_succ, ih']
  exact stage_app O p n (by omega) (tw n) _ _ a.1 a.2 b.1 b.2
def mergeL (half : Nat) (tw : Nat → Nat × Nat) (e o : List α × List α) : List α × List α :=
 appP ((List.range half).map fun k => O.add (nthG O e.1 k) (tw1 O tw k (nthG O o.1 k) (nthG O o.2 k)).1, (List.range half).map fun k => O.add (nthG O e.2 k) (tw1 O tw k (nthG O o.1 k) (nthG O o.2 k)).2)
  ((List.range half).map fun k => O.sub (nthG O e.1 k) (tw1 O tw k (nthG O o.1 k) (nthG O o.2 k)).1, (List.range half).map fun k => O.sub (nthG O e.2 k) (tw1 O tw k (nthG O o.1 k) (nthG O o.2 k)).2)
theorem mergeG_app (half : Nat) (hp : 0 < half) (tw : Nat → Nat × Nat) (e o : List α × List α) (h1 : e.1.length = half) (h2 : e.2.length = half) (h3 : o.1.length = half) (h4 : o.2.length = half) :
  stageG O half 1 tw (appP e o) = mergeL O half tw e o := by
 obtain ⟨a1, a2, a⟩ := stageG_at O half 1 hp tw (appP e o) (by simp [appP]; omega) (by simp [appP]; omega)
 generalize stageG O half 1 tw (appP e o) = A at *
 have key : ∀ i, i < 2 * half → (nthG O A.1 i, nthG O A.2 i) = (nthG O (mergeL O half tw e o).1 i, nthG O (mergeL O half tw e o).2 i) := fun i hi => by
  rw [a i, if_pos (by omega)]
  have hnA : ∀ j, nthG O (appP e o).1 j = if j < half then nthG O e.1 j else nthG O o.1 (j - half) := fun j => by simp only [appP]; rw [nthG_app, h1]
  have hnB : ∀ j, nthG O (appP e o).2 j = if j < half then nthG O e.2 j else nthG O o.2 (j - half) := fun j => by simp only [appP]; rw [nthG_app, h2]
  unfold stageAt
  simp only [mergeL, appP, nthG_app, List.length_map, List.length_range]
  rw [Nat.mod_eq_of_lt hi]
  by_cases c : i < half
  ·rw [if_pos c, if_pos c, if_pos c, nthG_map O _ c, nthG_map O _ c]
   have q1 := hnA i; have q2 := hnB i; have q3 := hnA (i + half); have q4 := hnB (i + half)
   simp only [appP] at q1 q2 q3 q4
   rw [← nthG_app, ← nthG_app] at *
   rw [if_pos c] at q1 q2
   rw [if_neg (by omega), show i + half - half = i from by omega] at q3 q4
   simp only [nthG_app, h1, h2, if_pos c, show ¬ (i + half < half) from by omega, if_false, show i + half - half = i from by omega]
   rfl
  ·rw [if_neg c, if_neg c, if_neg c, nthG_map O _ (by omega), nthG_map O _ (by omega)]
   simp only [h1, h2, if_neg c, if_pos (show i - half < half by omega)]
   rfl
 have lA : A.1.length = 2 * half := by rw [a1]; simp [appP]; omega
 have lB : A.2.length = 2 * half := by rw [a2]; simp [appP]; omega
 apply Prod.ext
 ·refine ext_nth O (by rw [lA]; simp [mergeL, appP]; omega) fun i hi => ?_
  have := key i (by omega); simp only [Prod.mk.injEq] at this; exact this.1
 ·refine ext_nth O (by rw [lB]; simp [mergeL, appP]; omega) fun i hi => ?_
  have := key i (by omega); simp only [Prod.mk.injEq] at this; exact this.2
end M1
namespace M2
open M0 M1
variable {α : Type} (O : Ops α)
def evenG (l : List α) : List α := (List.range ((l.length + 1) / 2)).map fun i => nthG O l (2 * i)
def oddG (l : List α) : List α := (List.range (l.length / 2)).map fun i => nthG O l (2 * i + 1)
def gatherG (order : List Nat) (l : List α) : List α := order.map (nthG O l)
structure Inv (order : List Nat) (n : Nat) : Prop where
 len : order.length = n
 lt : ∀ k, k < n → order.getD k 0 < n
 back : ∀ k, k < n → order.getD (order.getD k 0) 0 = k
theorem swap_gather (order : List Nat) (l : List α) (h : Inv order l.length) : swapG O order l = gatherG O order l := by
 have key := loopN_inv (f := fun k l => swapAt O l k (order.getD k 0)) (I := fun k (s : List α) => s.length = l.length ∧ ∀ i, i < l.length → nthG O s i = if i < k ∨ order.getD i 0 < k then nthG O l (order.getD i 0) else nthG O l i) order.length (s := l)
  ⟨rfl, fun i hi => by rw [if_neg (by omega)]⟩ (by
  rintro k s hk ⟨l1, hs⟩
  have hk' : k < l.length := by rw [← h.len]; exact hk
  have hak := h.lt k hk'
  have hbk := h.back k hk'
  show (swapAt O s k (order.getD k 0)).length = _ ∧ _
  generalize ha : order.getD k 0 = a at *
  unfold swapAt
  by_cases c : k < a
  ·rw [if_pos c]
   refine ⟨by simp [l1], fun i hi => ?_⟩
   have hsk := hs k hk'
   rw [ha, if_neg (by omega)] at hsk
   have hsa := hs a hak
   rw [hbk, if_neg (by omega)] at hsa
   rw [nthG_set, nthG_set, List.length_set, l1]
   by_cases e1 : a = i
   ·subst e1
    simp only [true_and, hak, if_true]
    rw [hsk, hbk, if_pos (by omega)]
   ·simp only [e1, false_and, if_false]
    by_cases e2 : k = i
    ·subst e2
     simp only [true_and, hk', if_true]
     rw [hsa, ha, if_pos (by omega)]
    ·simp only [e2, false_and, if_false]
     rw [hs i hi]
     have hne : order.getD i 0 ≠ k := fun e => e1 (by have := h.back i hi; rw [e, ha] at this; exact this)
     by_cases d : i < k ∨ order.getD i 0 < k
     ·rw [if_pos d, if_pos (by omega)]
     ·rw [if_neg d, if_neg (by omega)]
  ·rw [if_neg c]
   refine ⟨l1, fun i hi => ?_⟩
   rw [hs i hi]
   by_cases d : i < k ∨ order.getD i 0 < k
   ·rw [if_pos d, if_pos (by omega)]
   ·rw [if_neg d]
    by_cases d2 : i < k + 1 ∨ order.getD i 0 < k + 1
    ·rw [if_pos d2]
     -- i = k or its place is k: then a = k
     have hi2 := h.back i hi
     have : order.getD i 0 = i := by
      rcases (show i = k ∨ order.getD i 0 = k by omega) with e | e
      ·subst e
       rw [ha]; rw [ha] at d hi2
       omega
      ·rw [e, ha] at hi2
       omega
     rw [this]
    ·rw [if_neg d2])
 obtain ⟨l1, hs⟩ := key
 refine ext_nth O (by unfold gatherG; rw [List.length_map, h.len]; exact l1) fun i hi => ?_
 have hi' : i < l.length := by unfold swapG at hi; omega
 have := hs i hi'
 rw [h.len, if_pos (.inl hi')] at this
 unfold swapG
 rw [h.len, this]
 unfold gatherG
 have hio : i < order.length := by rw [h.len]; exact hi'
 symm
 show (order.map (nthG O l)).getD i (O.lit 0) = _
 rw [List.getD_eq_getElem?_getD, List.getElem?_map, List.getD_eq_getElem?_getD, List.getElem?_eq_getElem hio]
 rfl
def invOk (p : Nat) : Bool :=
 let l := bitsG p
 l.length == 2 ^ p && (List.range (2 ^ p)).all (fun k => decide (l.getD k 0 < 2 ^ p) && l.getD (l.getD k 0) 0 == k)
theorem inv_ok : ∀ p : Fin 8, invOk p.val = true := by decide +kernel
theorem inv_bits {p : Nat} (hp : p ≤ 7) : Inv (bitsG p) (2 ^ p) := by
 have h := inv_ok ⟨p, by omega⟩
 unfold invOk at h
 simp only [Bool.and_eq_true, beq_iff_eq, List.all_eq_true, List.mem_range, decide_eq_true_eq] at h
 exact ⟨h.1, fun k hk => (h.2 k hk).1, fun k hk => (h.2 k hk).2⟩
theorem bits_rec : ∀ p : Fin 7, bitsG (p.val + 1) = (bitsG p.val).map (2 * ·) ++ (bitsG p.val).map (2 * · + 1) := by decide +kernel
theorem bits_mem {p : Nat} (hp : p ≤ 7) {k : Nat} (h : k ∈ bitsG p) : k < 2 ^ p := by
 obtain ⟨i, hi, e⟩ := List.getElem_of_mem h
 have I := inv_bits hp
 have := I.lt i (by rw [← I.len]; exact hi)
 simp [List.getD_eq_getElem?_getD, List.getElem?_eq_getElem hi, e] at this
 exact this
theorem evenG_len (l : List α) : (evenG O l).length = (l.length + 1) / 2 := by simp [evenG]
theorem oddG_len (l : List α) : (oddG O l).length = l.length / 2 := by simp [oddG]
theorem nthG_even (l : List α) {i : Nat} (h : i < (l.length + 1) / 2) : nthG O (evenG O l) i = nthG O l (2 * i) := nthG_map O _ h
theorem nthG_odd (l : List α) {i : Nat} (h : i < l.length / 2) : nthG O (oddG O l) i = nthG O l (2 * i + 1) := nthG_map O _ h
theorem gather_rec {p : Nat} (hp : p ≤ 6) (l : List α) (hl : l.length = 2 ^ (p + 1)) : gatherG O (bitsG (p + 1)) l = gatherG O (bitsG p) (evenG O l) ++ gatherG O (bitsG p) (oddG O l) := by
 have e := bits_rec ⟨p, by omega⟩
 dsimp only at e
 rw [Nat.pow_succ] at hl
 unfold gatherG
 rw [e, List.map_append, List.map_map, List.map_map]
 congr 1
 ·refine List.map_congr_left fun k hk => ?_
  have := bits_mem (show p ≤ 7 by omega) hk
  exact (nthG_even O l (by omega)).symm
 ·refine List.map_congr_left fun k hk => ?_
  have := bits_mem (show p ≤ 7 by omega) hk
  exact (nthG_odd O l (by omega)).symm
def recG (tw : Nat → Nat → Nat × Nat) : Nat → List α × List α → List α × List α
 | 0, st => st
 | p + 1, st => mergeL O (2 ^ p) (tw p) (recG tw p (evenG O st.1, evenG O st.2)) (recG tw p (oddG O st.1, oddG O st.2))
theorem gather_len {p : Nat} (hp : p ≤ 7) (l : List α) : (gatherG O (bitsG p) l).length = 2 ^ p := by
 unfold gatherG; rw [List.length_map, (inv_bits hp).len]
theorem stages_rec (tw : Nat → Nat → Nat × Nat) {p : Nat} (hp : p ≤ 7) (st : List α × List α) (h1 : st.1.length = 2 ^ p) (h2 : st.2.length = 2 ^ p) :
  stages O p tw p (gatherG O (bitsG p) st.1, gatherG O (bitsG p) st.2) = recG O tw p st := by
 induction p generalizing st with
 | zero =>
  have e : bitsG 0 = [0] := by decide
  have one : ∀ l : List α, l.length = 2 ^ 0 → gatherG O (bitsG 0) l = l := fun l hl => by
   rw [e]
   match l, hl with
   | [x], _ => rfl
  show (_, _) = st
  rw [one _ h1, one _ h2]
 | succ p ih =>
  have e3 : 2 ^ (p + 1) = 2 ^ p + 2 ^ p := by rw [Nat.pow_succ]; omega
  have hpos := Nat.two_pow_pos p
  rw [gather_rec O (by omega) _ h1, gather_rec O (by omega) _ h2]
  have le : ∀ l : List α, l.length = 2 ^ (p + 1) → (evenG O l).length = 2 ^ p ∧ (oddG O l).length = 2 ^ p := fun l hl => by
   rw [evenG_len, oddG_len]; omega
  have sa := stages_app O p tw (gatherG O (bitsG p) (evenG O st.1), gatherG O (bitsG p) (evenG O st.2)) (gatherG O (bitsG p) (oddG O st.1), gatherG O (bitsG p) (oddG O st.2))
   (gather_len O (by omega) _) (gather_len O (by omega) _) (gather_len O (by omega) _) (gather_len O (by omega) _) p (Nat.le_refl _)
  unfold appP at sa
  dsimp only at sa
  have ea := ih (by omega) (evenG O st.1, evenG O st.2) (le _ h1).1 (le _ h2).1
  have eo := ih (by omega) (oddG O st.1, oddG O st.2) (le _ h1).2 (le _ h2).2
  dsimp only at ea eo
  rw [ea, eo] at sa
  show stageG O (2 ^ p) (2 ^ (p + 1 - (p + 1))) (tw p) (stages O (p + 1) tw p _) = _
  rw [sa, Nat.sub_self, Nat.pow_zero]
  have la := stages_len O tw (st := (gatherG O (bitsG p) (evenG O st.1), gatherG O (bitsG p) (evenG O st.2))) (gather_len O (by omega) _) (gather_len O (by omega) _) (Nat.le_refl p)
  have lo := stages_len O tw (st := (gatherG O (bitsG p) (oddG O st.1), gatherG O (bitsG p) (oddG O st.2))) (gather_len O (by omega) _) (gather_len O (by omega) _) (Nat.le_refl p)
  rw [ea] at la
  rw [eo] at lo
  exact mergeG_app O (2 ^ p) hpos (tw p) _ _ la.1 la.2 lo.1 lo.2
theorem into_rec (tab : Nat → Nat × Nat) (tw : Nat → Nat → Nat × Nat) {p : Nat} (hp : p ≤ 7) (ht : ∀ q k, q < p → k < 2 ^ q → tab (k * 2 ^ (p - (q + 1))) = tw q k) (st : List α × List α) (h1 : st.1.length = 2 ^ p) (h2 : st.2.length = 2 ^ p) :
  intoG O (bitsG p) p tab st = recG O tw p st := by
 rw [← stages_rec O tw hp st h1 h2]
 unfold intoG stages
 rw [swap_gather O _ _ (by rw [h1]; exact inv_bits hp), swap_gather O _ _ (by rw [h2]; exact inv_bits hp)]
 refine loopN_congr _ _ fun q hq s => ?_
 exact stageG_congr O _ _ (fun k hk => ht q k hq hk) s
end M2
namespace W1
open Ieee Go Gp Gq Gr W0
structure Nm (x : Nat) : Prop where
 lt : x < 2 * sgnW
 fin : frung x < infR
 cl : cn x = x
theorem nm_zero : Nm 0 := ⟨by decide, by decide, cn_zero⟩
def R (v : Int) (s : Nat) : Nat := cn (double.word (decide (v < 0)) (min (rung v.natAbs s) infR))
theorem signed_V {x : Nat} (b : Int) (hb : -1074 ≤ b) (h : b ≤ (plc (frung x) : Int) - 1074) :
  signed (fneg x) (sig (frung x)) ((plc (frung x) : Int) - 1074 - b).toNat * 2 ^ (b + 1074).toNat = V x := by
 rw [signed_sv, ← sv_mul, V_sv, Nat.mul_assoc, ← Nat.pow_add, (rung_split (frung x)).2.2.2,
  show ((plc (frung x) : Int) - 1074 - b).toNat + (b + 1074).toNat = plc (frung x) from by omega]
theorem told_num (s : Bool) {m : Nat} (h : m ≠ 0) (p : Int) : told (some (.number s m p)) = cn (double.word s (min (rung (toX m p) (toS p)) infR)) := by
 show cn (double.nearest s m p) = _
 rw [nearest_rung s m p h]
theorem told_num0 (s : Bool) (p : Int) : told (some (.number s 0 p)) = 0 := by
 show cn (double.nearest s 0 p) = _
 unfold Format.nearest
 rw [if_pos rfl, word_parts s (Nat.zero_le _), if_pos rfl]
theorem R_zero (s : Nat) : R 0 s = 0 := by
 unfold R
 rw [show rung (0 : Int).natAbs s = 0 from by unfold rung; simp]
 decide
theorem sum_num (s1 s2 : Bool) (m1 m2 : Nat) (p1 p2 : Int) (h1 : -1074 ≤ p1) (h2 : -1074 ≤ p2) (v1 v2 : Int)
  (e1 : signed s1 m1 (p1 - min p1 p2).toNat * 2 ^ (min p1 p2 + 1074).toNat = v1) (e2 : signed s2 m2 (p2 - min p1 p2).toNat * 2 ^ (min p1 p2 + 1074).toNat = v2) :
  told ((Datum.number s1 m1 p1).sum (Datum.number s2 m2 p2)) = R (v1 + v2) 0 := by
 simp only [Datum.sum]
 obtain ⟨b, hb⟩ : ∃ b, b = min p1 p2 := ⟨_, rfl⟩
 rw [← hb] at e1 e2 ⊢
 have hb0 : -1074 ≤ b := by omega
 generalize signed s1 m1 (p1 - b).toNat = a at *
 generalize signed s2 m2 (p2 - b).toNat = c at *
 subst e1; subst e2
 rw [← Int.add_mul]
 generalize a + c = t
 have hpos : (0 : Int) < 2 ^ (b + 1074).toNat := by exact Int.pow_pos (by decide)
 by_cases h0 : t = 0
 ·subst h0
  rw [Int.natAbs_zero, told_num0, Int.zero_mul, R_zero]
 ·rw [if_neg h0, told_num _ (by omega)]
  unfold R
  have e3 : decide (t * 2 ^ (b + 1074).toNat < 0) = decide (t < 0) := by
   by_cases ht : t < 0
   ·rw [decide_eq_true ht, decide_eq_true (Int.mul_neg_of_neg_of_pos ht hpos)]
   ·rw [decide_eq_false ht, decide_eq_false (by have := Int.mul_nonneg (show 0 ≤ t by omega) (Int.le_of_lt hpos); omega)]
  rw [e3, show toS b = 0 from by unfold toS; omega, show toX t.natAbs b = (t * 2 ^ (b + 1074).toNat).natAbs from by
   unfold toX; rw [Int.natAbs_mul, Int.natAbs_pow]; rfl]
theorem fadd_fin {x y : Nat} (hx : Nm x) (hy : Nm y) : fadd x y = R (V x + V y) 0 := by
 unfold fadd
 rw [read_fin hx.lt hx.fin, read_fin hy.lt hy.fin]
 exact sum_num _ _ _ _ _ _ (by omega) (by omega) _ _ (signed_V _ (by omega) (by omega)) (signed_V _ (by omega) (by omega))
theorem signed_neg (s : Bool) (m k : Nat) : signed (!s) m k = - signed s m k := by
 rw [signed_sv, signed_sv]; unfold sv; cases s <;> simp
theorem fsub_fin {x y : Nat} (hx : Nm x) (hy : Nm y) : fsub x y = R (V x - V y) 0 := by
 unfold fsub
 rw [read_fin hx.lt hx.fin, read_fin hy.lt hy.fin]
 rw [Int.sub_eq_add_neg]
 refine sum_num _ _ _ _ _ _ (by omega) (by omega) _ _ (signed_V _ (by omega) (by omega)) ?_
 rw [signed_neg, Int.neg_mul, signed_V _ (by omega) (by omega)]
theorem fmul_fin' {x y c : Nat} (hc : c = 1074) (hx : Nm x) (hy : Nm y) : fmul x y = R (V x * V y) c := by
 unfold fmul
 rw [read_fin hx.lt hx.fin, read_fin hy.lt hy.fin]
 simp only [Datum.product]
 have e1 := (rung_split (frung x)).2.2.2
 have e2 := (rung_split (frung y)).2.2.2
 have ev : (V x * V y).natAbs = sig (frung x) * sig (frung y) * 2 ^ (plc (frung x) + plc (frung y)) := by
  rw [V_sv, V_sv, Int.natAbs_mul, sv_abs, sv_abs, e1, e2, Nat.pow_add]
  rw [Nat.mul_assoc, Nat.mul_left_comm (2 ^ _), ← Nat.mul_assoc]
 have es : (V x * V y).natAbs ≠ 0 → decide (V x * V y < 0) = (fneg x ^^ fneg y) := fun h0 => by
  rw [V_sv, V_sv] at h0 ⊢
  generalize mag (frung x) = a at *
  generalize mag (frung y) = b at *
  rw [Int.natAbs_mul, sv_abs, sv_abs] at h0
  have h1 : (0 : Int) < (a : Int) * b := by
   have : (0 : Int) < ((a * b : Nat) : Int) := by exact_mod_cast Nat.pos_of_ne_zero h0
   rw [Int.natCast_mul] at this; exact this
  unfold sv
  cases fneg x <;> cases fneg y <;> simp [Int.neg_mul, Int.mul_neg] <;> omega
 generalize sig (frung x) * sig (frung y) = m at *
 generalize plc (frung x) = p at *
 generalize plc (frung y) = q at *
 by_cases h0 : m = 0
 ·subst h0
  rw [told_num0]
  have : V x * V y = 0 := by rw [Nat.zero_mul] at ev; omega
  rw [this, R_zero]
 ·rw [told_num _ h0]
  have hv : (V x * V y).natAbs ≠ 0 := by rw [ev]; exact Nat.mul_ne_zero h0 (Nat.ne_of_gt (Nat.two_pow_pos _))
  unfold R
  rw [es hv, ev]
  congr 3
  unfold toX toS
  by_cases hp : 0 ≤ (p : Int) - 1074 + (q - 1074) + 1074
  ·rw [show (-1074 - ((p : Int) - 1074 + (q - 1074))).toNat = 0 from by omega]
   rw [← rung_scale _ 0 c, Nat.zero_add, Nat.mul_assoc, ← Nat.pow_add]
   congr 3; omega
  ·rw [show ((p : Int) - 1074 + (q - 1074) + 1074).toNat = 0 from by omega, Nat.pow_zero, Nat.mul_one]
   rw [← rung_scale m _ (p + q), show (-1074 - ((p : Int) - 1074 + (q - 1074))).toNat + (p + q) = c from by omega]
theorem fmul_fin {x y : Nat} (hx : Nm x) (hy : Nm y) : fmul x y = R (V x * V y) 1074 := fmul_fin' rfl hx hy
theorem R_facts (v : Int) (s : Nat) : R v s < 2 * sgnW ∧ cn (R v s) = R v s ∧ frung (R v s) = min (rung v.natAbs s) infR := by
 have hl : min (rung v.natAbs s) infR < sgnW := Nat.lt_of_le_of_lt (Nat.min_le_right _ _) infR_lt
 refine ⟨cn_lt (word_lt2 _ hl), cn_idem _, ?_⟩
 unfold R
 rw [word_parts _ (Nat.min_le_right _ _)]
 split
 ·rename_i h; rw [h]; decide
 ·exact (word_neg _ hl).2
theorem R_nm {v : Int} {s : Nat} (h : rung v.natAbs s < infR) : Nm (R v s) := by
 obtain ⟨h1, h2, h3⟩ := R_facts v s
 exact ⟨h1, by rw [h3]; omega, h2⟩
theorem V_R (v : Int) (s : Nat) : V (R v s) = sv (decide (v < 0)) (mag (min (rung v.natAbs s) infR)) := by
 have hl : min (rung v.natAbs s) infR < sgnW := Nat.lt_of_le_of_lt (Nat.min_le_right _ _) infR_lt
 unfold R
 rw [word_parts _ (Nat.min_le_right _ _)]
 split
 ·rename_i h; rw [h, mag_zero]; unfold sv; cases decide (v < 0) <;> decide
 ·exact V_word _ hl
theorem sv_self (v : Int) : sv (decide (v < 0)) v.natAbs = v := by
 unfold sv; by_cases h : v < 0 <;> simp [h] <;> omega
theorem V_exact {v : Int} {s r : Nat} (h : v.natAbs = mag r * 2 ^ s) (hr : r ≤ infR) : V (R v s) * 2 ^ s = v := by
 rw [V_R, h, rung_exact, Nat.min_eq_left hr, ← sv_mul, ← h, sv_self]
theorem R_exact {v : Int} {s r : Nat} (h : v.natAbs = mag r * 2 ^ s) (hr : r < infR) : Nm (R v s) ∧ V (R v s) * 2 ^ s = v :=
 ⟨R_nm (by rw [h, rung_exact]; exact hr), V_exact h (Nat.le_of_lt hr)⟩
theorem nm_inj {x y : Nat} (hx : Nm x) (hy : Nm y) (h : V x = V y) : x = y := by
 by_cases h0 : frung x = 0
 ·have h1 : frung y = 0 := V_zero_iff.1 (h ▸ V_zero_iff.2 h0)
  have a := hx.cl; have b := hy.cl
  unfold cn at a b
  rw [if_neg (by rw [h0]; decide), if_pos h0] at a
  rw [if_neg (by rw [h1]; decide), if_pos h1] at b
  omega
 ·exact V_inj hx.lt hy.lt h h0
theorem V_abs (x : Nat) : (V x).natAbs = mag (frung x) := by rw [V_sv, sv_abs]
theorem R_self {x : Nat} (hx : Nm x) : R (V x) 0 = x := by
 obtain ⟨h1, h2⟩ := R_exact (v := V x) (s := 0) (r := frung x) (by rw [V_abs]; simp) hx.fin
 exact nm_inj h1 hx (by simpa using h2)
theorem fng_facts {x : Nat} (hx : Nm x) : Nm (fng x) ∧ V (fng x) = - V x := by
 have e := xor_top' x hx.lt
 have hl := (word_split hx.lt).2
 have hf : fng x = cn (double.word (!fneg x) (frung x)) := by unfold fng; rw [e]
 rw [word_parts _ (Nat.le_of_lt hx.fin)] at hf
 by_cases h0 : frung x = 0
 ·rw [if_pos h0] at hf
  rw [hf, V_zero_iff.2 h0]
  exact ⟨nm_zero, by decide⟩
 ·rw [if_neg h0] at hf
  refine ⟨⟨fng_lt hx.lt, ?_, cn_fng x⟩, ?_⟩
  ·rw [hf, (word_neg _ hl).2]; exact hx.fin
  ·rw [hf, V_word _ hl, V_sv]; unfold sv; cases fneg x <;> simp
end W1
namespace W2
open Ieee Go Gp Gq Gr W0 W1
def P2 (e : Nat) : Nat := e * bn
theorem mag_P2 {e c : Nat} (hc : c = e - 1) (h : 1 ≤ e) : mag (P2 e) = 2 ^ (52 + c) := by
 subst hc
 have := mag_at (e - 1) bn (by unfold bn; omega) (.inr (Nat.le_refl _))
 rw [show (e - 1) * bn + bn = P2 e from by unfold P2; rw [← Nat.succ_mul, Nat.succ_eq_add_one, Nat.sub_add_cancel h]] at this
 rw [this, bn_eq, ← Nat.pow_add]
theorem P2_facts {e : Nat} (h : 1 ≤ e) (h2 : e ≤ 2046) : Nm (P2 e) ∧ frung (P2 e) = P2 e := by
 have hb : P2 e < infR := by unfold P2 infR bn; omega
 have hl : P2 e < sgnW := Nat.lt_trans hb infR_lt
 have hf : frung (P2 e) = P2 e := Nat.mod_eq_of_lt hl
 refine ⟨⟨by omega, by rw [hf]; exact hb, ?_⟩, hf⟩
 unfold cn
 rw [hf, if_neg (by omega), if_neg (by unfold P2 bn; omega)]
theorem V_P2 {e c : Nat} (hc : c = e + 51) (h : 1 ≤ e) (h2 : e ≤ 2046) : V (P2 e) = 2 ^ c := by
 obtain ⟨hn, hf⟩ := P2_facts h h2
 have hl : P2 e < sgnW := by have := hn.fin; rw [hf] at this; exact Nat.lt_trans this infR_lt
 rw [V_pos_word hl, mag_P2 rfl h, show 52 + (e - 1) = c from by omega]
 push_cast; rfl
theorem R_scale (v : Int) (s k : Nat) : R (v * 2 ^ k) (s + k) = R v s := by
 unfold R
 rw [Int.natAbs_mul, show ((2 : Int) ^ k).natAbs = 2 ^ k from by rw [Int.natAbs_pow]; rfl, rung_scale]
 have hpos : (0 : Int) < 2 ^ k := Int.pow_pos (by decide)
 have e3 : decide (v * 2 ^ k < 0) = decide (v < 0) := by
  by_cases ht : v < 0
  ·rw [decide_eq_true ht, decide_eq_true (Int.mul_neg_of_neg_of_pos ht hpos)]
  ·rw [decide_eq_false ht, decide_eq_false (by have := Int.mul_nonneg (show 0 ≤ v by omega) (Int.le_of_lt hpos); omega)]
 rw [e3]
theorem fmul_up {x p : Nat} (hx : Nm x) (hp : p ≤ 1023) : fmul x (P2 (1023 + p)) = R (V x * 2 ^ p) 0 := by
 rw [fmul_fin hx (P2_facts (by omega) (by omega)).1, V_P2 (c := p + 1074) (by omega) (by omega) (by omega), Int.pow_add, ← Int.mul_assoc]
 have := R_scale (V x * 2 ^ p) 0 1074
 rwa [Nat.zero_add] at this
end W2
namespace M3
open Gp W0 W1 W2 M0 M1 M2
def opsN : Ops Nat := ⟨fadd, fsub, fmul, fng, fun n => n⟩
theorem two_pow (p : Nat) : 2 ^ (p + 1) = 2 * 2 ^ p := by rw [Nat.pow_succ, Nat.mul_comm]
end M3
namespace W4
open Ieee Go Go.RowKit Go.Proofs Go.Proofs.YtnbdoidccacdnaaGreatDoor Ow Dt Gp W0 M0 M1 M3
structure Fz (w : World) (b : Nat) (X : List Nat) : Prop where
 out : ∃ cs : List Value, Blk w b 50 cs ∧ ∀ j, j < X.length → ∃ v, cs[j]? = some v ∧ Fc v (nthN X j)
theorem _root_.Go.Proofs.YtnbdoidccacdnaaGreatDoor.W0.Fk.fz {w : World} {b : Nat} {X : List Nat} (h : Fk w b X) : Fz w b X := by
 obtain ⟨cs, h1, h2, h3⟩ := h.out
 exact ⟨cs, h1, fun j hj => ⟨cs[j], List.getElem?_eq_getElem (by omega), h3 j _ (List.getElem?_eq_getElem (by omega))⟩⟩
theorem Fz.bel {w w' : World} {b : Nat} {X : List Nat} (h : Fz w b X) (g : Bel w w') : Fz w' b X := by
 obtain ⟨cs, h1, h2⟩ := h.out; exact ⟨cs, h1.bel g, h2⟩
theorem Fz.lt {w : World} {b : Nat} {X : List Nat} (h : Fz w b X) : b < w.heap.size := by obtain ⟨cs, h1, _⟩ := h.out; exact h1.lt
theorem Fz.far {w : World} {b : Nat} {X : List Nat} (h : Fz w b X) {p : Addr} (hp : b ≠ p.block) (v : Value) : Fz (w.setCell p v) b X := by
 obtain ⟨cs, h1, h2⟩ := h.out; exact ⟨cs, h1.far hp v, h2⟩
theorem Fz.at_ {w : World} {b : Nat} {X : List Nat} (h : Fz w b X) {i : Nat} (hi : i < X.length) : ∃ r, w.cell? ⟨b, i, none⟩ = some (.float .f64 r) ∧ r < 2 * sgnW ∧ cn r = nthN X i := by
 obtain ⟨cs, h1, h2⟩ := h.out
 obtain ⟨v, hv, r, rfl, k1, k2⟩ := h2 i hi
 exact ⟨r, h1.cell hv, k1, k2⟩
theorem Fz.free {w : World} {b : Nat} {X : List Nat} (h : Fz w b X) (i : Nat) : w.frozen? ⟨b, i, none⟩ = false := by
 obtain ⟨cs, h1, _⟩ := h.out; exact h1.free i
theorem Fz.set {w : World} {b : Nat} {X : List Nat} (h : Fz w b X) (i : Nat) {r x : Nat} (hr : r < 2 * sgnW) (hx : cn r = x) : Fz (w.setCell ⟨b, i, none⟩ (.float .f64 r)) b (X.set i x) := by
 obtain ⟨cs, h1, h2⟩ := h.out
 refine ⟨cs.set i (.float .f64 r), h1.set i _, fun j hj => ?_⟩
 rw [List.length_set] at hj
 obtain ⟨v, hv, hf⟩ := h2 j hj
 have hjc : j < cs.length := (List.getElem?_eq_some_iff.1 hv).1
 rw [nthN_set]
 by_cases e : i = j
 ·subst e
  refine ⟨.float .f64 r, by rw [List.getElem?_set]; simp [hjc], ?_⟩
  rw [if_pos ⟨rfl, hj⟩]
  exact ⟨r, rfl, hr, hx⟩
 ·refine ⟨v, by rw [List.getElem?_set, if_neg e]; exact hv, ?_⟩
  rw [if_neg (fun q => e q.1)]; exact hf
theorem Fz.fr {w : World} {b : Nat} {X : List Nat} (h : Fz w b X) (hm : X.length ≤ 35184372088831) : Fr w (some ⟨b, 0, none⟩) X :=
 ⟨hm, fun j hj => by
  obtain ⟨r, hc, k1, k2⟩ := h.at_ hj
  exact ⟨_, _, rfl, by rw [add_lit, Nat.zero_add]; exact hc, r, rfl, k1, k2⟩⟩
structure Gr2 (b c : Nat) (w w' : World) : Prop where
 os : w'.os = w.os
 tape : w'.tape = w.tape
 output : w'.output = w.output
 size : w.heap.size ≤ w'.heap.size
 block : ∀ k, k < w.heap.size → k ≠ b → k ≠ c → w'.heap[k]? = w.heap[k]?
theorem Gr2.refl (b c : Nat) (w : World) : Gr2 b c w w := ⟨rfl, rfl, rfl, Nat.le_refl _, fun _ _ _ _ => rfl⟩
theorem Gr2.trans {b c : Nat} {u v w : World} (h : Gr2 b c u v) (k : Gr2 b c v w) : Gr2 b c u w :=
 ⟨k.os.trans h.os, k.tape.trans h.tape, k.output.trans h.output, Nat.le_trans h.size k.size, fun i hi n1 n2 => (k.block i (Nat.lt_of_lt_of_le hi h.size) n1 n2).trans (h.block i hi n1 n2)⟩
theorem gr2_bel {w w' : World} (h : Bel w w') (b c : Nat) : Gr2 b c w w' := ⟨h.out.os, h.out.tape, h.out.output, h.out.size, fun k hk _ _ => h.out.block k hk⟩
theorem Gr2.tb {b c : Nat} {u v w : World} (h : Gr2 b c u v) (k : Bel v w) : Gr2 b c u w := h.trans (gr2_bel k b c)
theorem Gr2.alloc {b c : Nat} {u v : World} (h : Gr2 b c u v) (o : Obj) : Gr2 b c u (v.alloc o) := h.tb ((Bel.refl v).alloc o)
theorem Gr2.drew {b c : Nat} {u v : World} (h : Gr2 b c u v) : Gr2 b c u v.drew := h.tb (Bel.refl v).drew
theorem Gr2.set {b c : Nat} {u v : World} (h : Gr2 b c u v) {p : Addr} (hp : p.block = b ∨ p.block = c) (x : Value) : Gr2 b c u (v.setCell p x) :=
 h.trans ⟨rfl, rfl, rfl, by simp [World.setCell], fun k _ n1 n2 => Below.heap_setCell _ _ _ _ (by rcases hp with e | e <;> rw [e] <;> assumption)⟩
theorem Gr2.setNew {b c : Nat} {u v : World} (h : Gr2 b c u v) {p : Addr} (hp : u.heap.size ≤ p.block) (x : Value) : Gr2 b c u (v.setCell p x) :=
 ⟨h.os, h.tape, h.output, by have := h.size; simpa [World.setCell] using this, fun k hk n1 n2 => (Below.heap_setCell _ _ _ _ (by omega)).trans (h.block k hk n1 n2)⟩
theorem Gr2.blk {b c : Nat} {w w' : World} (h : Gr2 b c w w') {b' : Nat} {t : TypeId} {cs : List Value} (k : Blk w b' t cs) (n1 : b' ≠ b) (n2 : b' ≠ c) : Blk w' b' t cs := ⟨by rw [h.block b' k.lt n1 n2]; exact k.out⟩
theorem Gr2.fz {b c : Nat} {w w' : World} (h : Gr2 b c w w') {b' : Nat} {X : List Nat} (k : Fz w b' X) (n1 : b' ≠ b) (n2 : b' ≠ c) : Fz w' b' X := by
 obtain ⟨cs, h1, h2⟩ := k.out; exact ⟨cs, h.blk h1 n1 n2, h2⟩
theorem Gr2.of1 {b c : Nat} {w w' : World} (h : Gr b w w') : Gr2 b c w w' := ⟨h.os, h.tape, h.output, h.size, fun k hk n1 _ => h.block k hk n1⟩
theorem Gr2.of2 {b c : Nat} {w w' : World} (h : Gr c w w') : Gr2 b c w w' := ⟨h.os, h.tape, h.output, h.size, fun k hk _ n2 => h.block k hk n2⟩
theorem Gr2.tab {b c : Nat} {w w' : World} (h : Gr2 b c w w') (T : Tab w) (n1 : 2 ≠ b) (n2 : 2 ≠ c) : Tab w' :=
 ⟨fun i hi => by have := T.cell i hi; unfold World.cell? at this ⊢; rw [h.block 2 (I4.Tab.lt T) n1 n2]; exact this⟩
theorem Gr2.bel {b c : Nat} {u w w' : World} (h : Gr2 b c w w') (k : Bel u w) (hb : u.heap.size ≤ b) (hc : u.heap.size ≤ c) : Bel u w' :=
 ⟨k.out.trans ⟨h.os, h.tape, h.output, h.size, fun i hi => h.block i (by have := k.size; omega) (by omega) (by omega)⟩⟩
theorem gr_fz {b : Nat} {w w' : World} (h : Gr b w w') {b' : Nat} {X : List Nat} (k : Fz w b' X) (n1 : b' ≠ b) : Fz w' b' X := by
 obtain ⟨cs, h1, h2⟩ := k.out; exact ⟨cs, h.blk h1 n1, h2⟩
end W4
namespace W5
open Ieee Go Go.RowKit Go.Proofs Go.Proofs.YtnbdoidccacdnaaGreatDoor Ow Dt Gp W0 S4 M0 M1 M3 W4
attribute [local go_sem ↓] Go.wp_at_zero Go.wp_at_succ
structure RowF (w : World) (B : Nat) (v : Value) (X : List Nat) : Prop where
 out : ∃ A c, v = .slice A X.length c ∧ X.length ≤ c ∧ c ≤ 9223372036854775807 ∧ (X.length = 0 ∨ ∃ b, A = some ⟨b, 0, none⟩ ∧ Fz w b X ∧ B ≤ b)
theorem RowF.bel {w w' : World} {B : Nat} {v : Value} {X : List Nat} (h : RowF w B v X) (g : Bel w w') : RowF w' B v X := by
 obtain ⟨A, c, h1, h2, h3, h4⟩ := h.out
 exact ⟨A, c, h1, h2, h3, h4.imp id fun ⟨b, e, f, l⟩ => ⟨b, e, f.bel g, l⟩⟩
theorem RowF.mono {w : World} {B B' : Nat} {v : Value} {X : List Nat} (h : RowF w B v X) (g : B' ≤ B) : RowF w B' v X := by
 obtain ⟨A, c, h1, h2, h3, h4⟩ := h.out
 exact ⟨A, c, h1, h2, h3, h4.imp id fun ⟨b, e, f, l⟩ => ⟨b, e, f, Nat.le_trans g l⟩⟩
theorem RowF.at_ {w : World} {B : Nat} {v : Value} {X : List Nat} (h : RowF w B v X) (hp : 0 < X.length) : ∃ b c, v = .slice (some ⟨b, 0, none⟩) X.length c ∧ X.length ≤ c ∧ c ≤ 9223372036854775807 ∧ Fz w b X ∧ B ≤ b := by
 obtain ⟨A, c, h1, h2, h3, h4⟩ := h.out
 rcases h4 with h4 | ⟨b, rfl, f, l⟩
 ·omega
 ·exact ⟨b, c, h1, h2, h3, f, l⟩
theorem RowF.nil (w : World) (B : Nat) (A : Option Addr) (c : Nat) (hc : c ≤ 9223372036854775807) : RowF w B (.slice A 0 c) [] := ⟨A, c, rfl, Nat.zero_le _, hc, .inl rfl⟩
theorem RowF.of {w : World} {B b c : Nat} {X : List Nat} (h : Fz w b X) (hB : B ≤ b) (hc : X.length ≤ c) (hc2 : c ≤ 9223372036854775807) : RowF w B (.slice (some ⟨b, 0, none⟩) X.length c) X := ⟨_, c, rfl, hc, hc2, .inr ⟨b, rfl, h, hB⟩⟩
theorem RowF.far {w : World} {B : Nat} {u : Value} {X : List Nat} (h : RowF w B u X) {p : Addr} (hp : p.block < B) (v : Value) : RowF (w.setCell p v) B u X := by
 obtain ⟨A, c, h1, h2, h3, h4⟩ := h.out
 exact ⟨A, c, h1, h2, h3, h4.imp id fun ⟨b, e, f, l⟩ => ⟨b, e, f.far (by omega) v, l⟩⟩
structure Two (w : World) (B : Nat) (u0 u1 : Value) (X Y : List Nat) : Prop where
 one : RowF w B u0 X
 two : RowF w B u1 Y
 ne : ∀ b b' o o' n n' c c', u0 = .slice (some ⟨b, o, none⟩) n c → u1 = .slice (some ⟨b', o', none⟩) n' c' → 0 < X.length → 0 < Y.length → b ≠ b'
theorem Two.bel {w w' : World} {B : Nat} {u0 u1 : Value} {X Y : List Nat} (h : Two w B u0 u1 X Y) (g : Bel w w') : Two w' B u0 u1 X Y := ⟨h.one.bel g, h.two.bel g, h.ne⟩
theorem Two.mono {w : World} {B B' : Nat} {u0 u1 : Value} {X Y : List Nat} (h : Two w B u0 u1 X Y) (g : B' ≤ B) : Two w B' u0 u1 X Y := ⟨h.one.mono g, h.two.mono g, h.ne⟩
theorem Two.far {w : World} {B : Nat} {u0 u1 : Value} {X Y : List Nat} (h : Two w B u0 u1 X Y) {p : Addr} (hp : p.block < B) (v : Value) : Two (w.setCell p v) B u0 u1 X Y := ⟨h.one.far hp v, h.two.far hp v, h.ne⟩
theorem RowF.fr {w : World} {B : Nat} {v : Value} {X : List Nat} (h : RowF w B v X) (hm : X.length ≤ 35184372088831) : ∃ A c, v = .slice A X.length c ∧ X.length ≤ c ∧ Fr w A X := by
 obtain ⟨A, c, h1, h2, h3, h4⟩ := h.out
 refine ⟨A, c, h1, h2, ?_⟩
 rcases h4 with h4 | ⟨b, rfl, f, l⟩
 ·obtain rfl := List.length_eq_zero_iff.1 h4; exact Fr.nil _ _
 ·exact f.fr hm
theorem Fr.news {w : World} {ad : Addr} {X : List Nat} (h : Fr w (some ad) X) : ∃ cs : List Value, cs.length = X.length ∧ (∀ j u, cs[j]? = some u → w.cell? (ad.add j) = some u) ∧ (∀ j u, cs[j]? = some u → Fc u (nthN X j)) := by
 have key : ∀ j, j < X.length → ∃ v, w.cell? (ad.add j) = some v ∧ Fc v (nthN X j) := fun j hj => by
  obtain ⟨ad', v, e, hc, k⟩ := h.cell j hj
  cases e; exact ⟨v, hc, k⟩
 have pick : ∀ n, n ≤ X.length → ∃ cs : List Value, cs.length = n ∧ (∀ j u, cs[j]? = some u → w.cell? (ad.add j) = some u) ∧ (∀ j u, cs[j]? = some u → Fc u (nthN X j)) := by
  intro n
  induction n with
  | zero => exact fun _ => ⟨[], rfl, fun j u hu => by simp at hu, fun j u hu => by simp at hu⟩
  | succ n ih =>
   intro hn
   obtain ⟨cs, h1, h2, h3⟩ := ih (by omega)
   obtain ⟨v, hv, hf⟩ := key n (by omega)
   have app : ∀ j u, (cs ++ [v])[j]? = some u → (cs[j]? = some u) ∨ (j = n ∧ u = v) := fun j u hu => by
    rw [List.getElem?_append] at hu
    split at hu
    ·exact .inl hu
    ·rename_i hge
     rcases hz : j - cs.length with _ | k
     ·rw [hz] at hu; simp at hu; exact .inr ⟨by omega, hu.symm⟩
     ·rw [hz] at hu; simp at hu
   refine ⟨cs ++ [v], by simp [h1], fun j u hu => ?_, fun j u hu => ?_⟩
   ·rcases app j u hu with q | ⟨rfl, rfl⟩
    ·exact h2 j u q
    ·exact hv
   ·rcases app j u hu with q | ⟨rfl, rfl⟩
    ·exact h3 j u q
    ·exact hf
 exact pick X.length (Nat.le_refl _)
end W5
namespace Yh
open Ieee Go Go.RowKit Go.Proofs Go.Proofs.YtnbdoidccacdnaaGreatDoor Ow Dt Gp W0 S4 M0 M1 M3 W4 W5
inductive Ent where
 | blk (b : Nat) (t : TypeId) (cs : List Value)
 | row (b : Nat) (X : List Nat)
 | whole (b : Nat) (X : List Nat)
def Ent.b : Ent → Nat
 | .blk b _ _ => b
 | .row b _ => b
 | .whole b _ => b
def Ent.ok (w : World) : Ent → Prop
 | .blk b t cs => Blk w b t cs
 | .row b X => Fz w b X
 | .whole b X => Fk w b X
theorem Ent.ok.lt {w : World} {e : Ent} (h : e.ok w) : e.b < w.heap.size := by
 cases e with
 | blk b t cs => exact Blk.lt h
 | row b X => exact Fz.lt h
 | whole b X => exact Fk.lt h
theorem Ent.ok.same {w w' : World} {e : Ent} (h : e.ok w) (g : w'.heap[e.b]? = w.heap[e.b]?) : e.ok w' := by
 cases e with
 | blk b t cs => exact ⟨(show w'.heap[b]? = _ from g).trans (show Blk w b t cs from h).out⟩
 | row b X =>
  obtain ⟨cs, h1, h2⟩ := (show Fz w b X from h).out
  exact ⟨cs, ⟨(show w'.heap[b]? = _ from g).trans h1.out⟩, h2⟩
 | whole b X =>
  obtain ⟨cs, h1, h2⟩ := (show Fk w b X from h).out
  exact ⟨cs, ⟨(show w'.heap[b]? = _ from g).trans h1.out⟩, h2⟩
structure Hp (W0 w : World) (L : List Ent) : Prop where
 bel : Bel W0 w
 ge : ∀ e ∈ L, W0.heap.size ≤ e.b
 nd : (L.map Ent.b).Nodup
 ok : ∀ e ∈ L, e.ok w
theorem Hp.nil {W0 w : World} (g : Bel W0 w) : Hp W0 w [] := ⟨g, fun _ h => (List.not_mem_nil h).elim, List.nodup_nil, fun _ h => (List.not_mem_nil h).elim⟩
section
variable {W0 w w' : World} {L : List Ent} {b b' k : Nat} {t : TypeId} {cs : List Value} {X Y : List Nat} {e e' : Ent} {v : Value}
theorem Hp.get (h : Hp W0 w L) (i : Nat) (hi : L[i]? = some e) : e.ok w := h.ok e (List.mem_of_getElem? hi)
theorem Hp.blk (h : Hp W0 w L) (i : Nat) (hi : L[i]? = some (.blk b t cs)) : Blk w b t cs := h.get i hi
theorem Hp.row (h : Hp W0 w L) (i : Nat) (hi : L[i]? = some (.row b X)) : Fz w b X := h.get i hi
theorem Hp.whole (h : Hp W0 w L) (i : Nat) (hi : L[i]? = some (.whole b X)) : Fk w b X := h.get i hi
theorem Hp.geI (h : Hp W0 w L) (i : Nat) (hi : L[i]? = some e) : W0.heap.size ≤ e.b := h.ge e (List.mem_of_getElem? hi)
theorem Hp.ltI (h : Hp W0 w L) (i : Nat) (hi : L[i]? = some e) : e.b < w.heap.size := (h.get i hi).lt
theorem nd_ne {l : List Nat} (h : l.Nodup) {i j : Nat} {x y : Nat} (hi : l[i]? = some x) (hj : l[j]? = some y) (hij : i ≠ j) : x ≠ y := by
 obtain ⟨h1, rfl⟩ := List.getElem?_eq_some_iff.1 hi
 obtain ⟨h2, rfl⟩ := List.getElem?_eq_some_iff.1 hj
 intro q
 exact hij ((List.getElem_inj h).1 q)
theorem Hp.ne (h : Hp W0 w L) (i j : Nat) (hi : L[i]? = some e) (hj : L[j]? = some e') (hij : i ≠ j := by decide) : e.b ≠ e'.b :=
 nd_ne h.nd (i := i) (j := j) (by rw [List.getElem?_map, hi]; rfl) (by rw [List.getElem?_map, hj]; rfl) hij
theorem Hp.lt (h : Hp W0 w L) : ∀ e ∈ L, e.b < w.heap.size := fun e he => (h.ok e he).lt
theorem Hp.grow (h : Hp W0 w L) (g : Bel w w') : Hp W0 w' L := ⟨h.bel.trans g, h.ge, h.nd, fun e he => (h.ok e he).same (g.block (h.lt e he))⟩
theorem Hp.drew (h : Hp W0 w L) : Hp W0 w.drew L := h.grow (Bel.refl w).drew
theorem Hp.new (h : Hp W0 w L) (g : Bel w w') (k : e.ok w') (hb : w.heap.size ≤ e.b) : Hp W0 w' (e :: L) := by
 have h' := h.grow g
 have s := h.bel.size
 refine ⟨h'.bel, ?_, ?_, ?_⟩
 ·intro x hx
  rcases List.mem_cons.1 hx with rfl | hx
  ·omega
  ·exact h.ge x hx
 ·simp only [List.map_cons, List.nodup_cons]
  refine ⟨fun q => ?_, h.nd⟩
  obtain ⟨x, hx, hxe⟩ := List.mem_map.1 q
  have := h.lt x hx
  omega
 ·intro x hx
  rcases List.mem_cons.1 hx with rfl | hx
  ·exact k
  ·exact h'.ok x hx
theorem Hp.box (h : Hp W0 w L) (cs : List Value) (t : TypeId) : Hp W0 (w.alloc (.cells cs.toArray t)) (.blk w.heap.size t cs :: L) := h.new (e := .blk w.heap.size t cs) ((Bel.refl w).alloc _) (Blk.new w cs t) (Nat.le_refl _)
theorem Hp.turn (h : Hp W0 w L) (i : Nat) (hi : L[i]? = some e) (os : w'.os = w.os) (tp : w'.tape = w.tape) (ou : w'.output = w.output) (sz : w.heap.size ≤ w'.heap.size) (bl : ∀ k, k < w.heap.size → k ≠ e.b → w'.heap[k]? = w.heap[k]?)
    (e' : Ent) (hb : e'.b = e.b) (k : e'.ok w') : Hp W0 w' (L.set i e') := by
  have hlen := (List.getElem?_eq_some_iff.1 hi).1
  have hge := h.geI i hi
  refine ⟨⟨h.bel.out.trans ⟨os, tp, ou, sz, fun j hj => bl j (Nat.lt_of_lt_of_le hj h.bel.size) (by omega)⟩⟩, ?_, ?_, ?_⟩
  · intro x hx
    rcases List.mem_or_eq_of_mem_set hx with hx | rfl
    · exact h.ge x hx
    · omega
  · have : (L.set i e').map Ent.b = L.map Ent.b := by
      rw [List.map_set, hb]
      apply List.ext_getElem?
      intro j
      rw [List.getElem?_set]
      split
      · rename_i q; subst q
        rw [List.getElem?_map, hi]; simp [hlen]
      · rfl
    rw [this]; exact h.nd
  · intro x hx
    obtain ⟨j, hj⟩ := List.mem_iff_getElem?.1 hx
    rw [List.getElem?_set] at hj
    split at hj
    · first
      | (split at hj
         · cases hj; exact k
         · cases hj)
      | (cases hj; exact k)
    · rename_i q
      have hx' := List.mem_of_getElem? hj
      exact (h.ok x hx').same (bl x.b (h.lt x hx') (Ne.symm (h.ne i j hi hj q)))
theorem Hp.set (h : Hp W0 w L) (i : Nat) (hi : L[i]? = some (.blk b t cs)) (k : Nat) (v : Value) : Hp W0 (w.setCell ⟨b, k, none⟩ v) (L.set i (.blk b t (cs.set k v))) :=
 h.turn (w' := w.setCell ⟨b, k, none⟩ v) i hi rfl rfl rfl (by simp [World.setCell]) (fun j _ hj => Below.heap_setCell w ⟨b, k, none⟩ v j hj) (.blk b t (cs.set k v)) rfl ((h.blk i hi).set k v)
theorem Hp.setF (h : Hp W0 w L) (i : Nat) (hi : L[i]? = some (.row b X)) (k : Nat) {r x : Nat} (hr : r < 2 * sgnW) (hx : cn r = x) : Hp W0 (w.setCell ⟨b, k, none⟩ (.float .f64 r)) (L.set i (.row b (X.set k x))) :=
 h.turn (w' := w.setCell ⟨b, k, none⟩ (.float .f64 r)) i hi rfl rfl rfl (by simp [World.setCell]) (fun j _ hj => Below.heap_setCell w ⟨b, k, none⟩ _ j hj) (.row b (X.set k x)) rfl ((h.row i hi).set k hr hx)
theorem Hp.gr (h : Hp W0 w L) (i : Nat) (hi : L[i]? = some (.row b X)) (g : Gr b w w') (k : Fz w' b Y) : Hp W0 w' (L.set i (.row b Y)) :=
 h.turn i hi g.os g.tape g.output g.size (fun j hj hn => g.block j hj hn) (.row b Y) rfl k
theorem Hp.grW (h : Hp W0 w L) (i : Nat) (hi : L[i]? = some (.whole b X)) (g : Gr b w w') (k : Fk w' b Y) : Hp W0 w' (L.set i (.whole b Y)) :=
 h.turn i hi g.os g.tape g.output g.size (fun j hj hn => g.block j hj hn) (.whole b Y) rfl k
theorem Hp.gr2 {X' Y' : List Nat} (h : Hp W0 w L) (i j : Nat) (hi : L[i]? = some (.row b X)) (hj : L[j]? = some (.row b' Y)) (g : Gr2 b b' w w') (hij : i ≠ j) (k : Fz w' b X') (k' : Fz w' b' Y') : Hp W0 w' ((L.set i (.row b X')).set j (.row b' Y')) := by
  have hli := (List.getElem?_eq_some_iff.1 hi).1
  have hlj := (List.getElem?_eq_some_iff.1 hj).1
  have g1 : W0.heap.size ≤ b := h.geI i hi
  have g2 : W0.heap.size ≤ b' := h.geI j hj
  have mem : ∀ x, x ∈ (L.set i (.row b X')).set j (.row b' Y') → x = .row b X' ∨ x = .row b' Y' ∨ (x ∈ L ∧ x.b ≠ b ∧ x.b ≠ b') := by
    intro x hx
    obtain ⟨m, hm⟩ := List.mem_iff_getElem?.1 hx
    rw [List.getElem?_set] at hm
    split at hm
    · first
      | (split at hm
         · cases hm; exact .inr (.inl rfl)
         · cases hm)
      | (cases hm; exact .inr (.inl rfl))
    · rename_i q
      rw [List.getElem?_set] at hm
      split at hm
      · first
        | (split at hm
           · cases hm; exact .inl rfl
           · cases hm)
        | (cases hm; exact .inl rfl)
      · rename_i q2
        exact .inr (.inr ⟨List.mem_of_getElem? hm, Ne.symm (h.ne i m hi hm q2), Ne.symm (h.ne j m hj hm q)⟩)
  refine ⟨⟨h.bel.out.trans ⟨g.os, g.tape, g.output, g.size, fun m hm => g.block m (Nat.lt_of_lt_of_le hm h.bel.size) (by omega) (by omega)⟩⟩, ?_, ?_, ?_⟩
  · intro x hx
    rcases mem x hx with rfl | rfl | ⟨hx, _⟩
    · exact g1
    · exact g2
    · exact h.ge x hx
  · have : ((L.set i (.row b X')).set j (.row b' Y')).map Ent.b = L.map Ent.b := by
      rw [List.map_set, List.map_set]
      apply List.ext_getElem?
      intro m
      rw [List.getElem?_set]
      split
      · rename_i q; subst q
        rw [List.getElem?_map, hj]; simp [hlj, Ent.b]
      · rw [List.getElem?_set]
        split
        · rename_i q; subst q
          rw [List.getElem?_map, hi]; simp [hli, Ent.b]
        · rfl
    rw [this]; exact h.nd
  · intro x hx
    rcases mem x hx with rfl | rfl | ⟨hx, n1, n2⟩
    · exact k
    · exact k'
    · exact (h.ok x hx).same (g.block x.b (h.lt x hx) n1 n2)
theorem Hp.comb {W1 : World} {M : List Ent} (h : Hp W0 W1 L) (g : Hp W1 w M) : Hp W0 w (M ++ L) := by
 have h' := h.grow g.bel
 have s := h.bel.size
 refine ⟨h'.bel, ?_, ?_, ?_⟩
 ·intro x hx
  rcases List.mem_append.1 hx with hx | hx
  ·exact Nat.le_trans s (g.ge x hx)
  ·exact h.ge x hx
 ·rw [List.map_append, List.nodup_append]
  refine ⟨g.nd, h.nd, fun x hx y hy => ?_⟩
  obtain ⟨a, ha, rfl⟩ := List.mem_map.1 hx
  obtain ⟨c, hc, rfl⟩ := List.mem_map.1 hy
  have := g.ge a ha
  have := h.lt c hc
  omega
 ·intro x hx
  rcases List.mem_append.1 hx with hx | hx
  ·exact g.ok x hx
  ·exact h'.ok x hx
theorem Hp.pick {M : List Ent} (h : Hp W0 w L) (is : List Nat) (hm : M.map some = is.map (fun i => L[i]?)) (hn : is.Nodup := by decide) : Hp W0 w M := by
 have at_ : ∀ m : Nat, m < M.length → ∃ i, is[m]? = some i ∧ L[i]? = M[m]? := fun m hlt => by
  have hl : m < is.length := by have := congrArg List.length hm; simp at this; omega
  refine ⟨is[m], List.getElem?_eq_getElem hl, ?_⟩
  have := congrArg (fun l => l[m]?) hm
  simp only [List.getElem?_map, List.getElem?_eq_getElem hlt, List.getElem?_eq_getElem hl, Option.map_some] at this
  rw [List.getElem?_eq_getElem hlt]
  exact (Option.some.inj this).symm
 have sub : ∀ x ∈ M, x ∈ L := fun x hx => by
  obtain ⟨m, hm'⟩ := List.mem_iff_getElem?.1 hx
  obtain ⟨i, _, hi⟩ := at_ m (List.getElem?_eq_some_iff.1 hm').1
  exact List.mem_of_getElem? (hi.trans hm')
 refine ⟨h.bel, fun x hx => h.ge x (sub x hx), ?_, fun x hx => h.ok x (sub x hx)⟩
 rw [List.nodup_iff_pairwise_ne, List.pairwise_iff_getElem]
 intro i j hi hj hij
 simp only [List.length_map] at hi hj
 simp only [List.getElem_map]
 obtain ⟨a, ha, hai⟩ := at_ i hi
 obtain ⟨c, hc, hcj⟩ := at_ j hj
 rw [List.getElem?_eq_getElem hi] at hai
 rw [List.getElem?_eq_getElem hj] at hcj
 refine h.ne a c hai hcj fun q => ?_
 subst q
 obtain ⟨h1, h1'⟩ := List.getElem?_eq_some_iff.1 ha
 obtain ⟨h2, h2'⟩ := List.getElem?_eq_some_iff.1 hc
 have := (List.getElem_inj hn).1 (h1'.trans h2'.symm)
 omega
theorem Hp.rowF (h : Hp W0 w L) (g : Bel w w') (r : RowF w' w.heap.size v X) (h0 : 0 < X.length) : ∃ b c, v = .slice (some ⟨b, 0, none⟩) X.length c ∧ X.length ≤ c ∧ c ≤ 9223372036854775807 ∧ Hp W0 w' (.row b X :: L) := by
 obtain ⟨b, c, e, h1, h2, f, l⟩ := r.at_ h0
 exact ⟨b, c, e, h1, h2, h.new (e := .row b X) g f l⟩
theorem Hp.two {b1 b2 : Nat} (g : Bel w w') (F1 : Fk w' b1 X) (F2 : Fk w' b2 Y) (le : w.heap.size ≤ b1) (lt : b1 < b2) : Hp w w' [.whole b1 X, .whole b2 Y] :=
 ⟨g, fun e he => by simp at he; rcases he with rfl | rfl <;> (dsimp only [Ent.b]; omega), by simp [Ent.b]; omega, fun e he => by simp at he; rcases he with rfl | rfl <;> assumption⟩
theorem Hp.base {W1 : World} (h : Hp W1 w L) (g : Bel W0 W1) : Hp W0 w L := ⟨g.trans h.bel, fun e he => Nat.le_trans g.size (h.ge e he), h.nd, h.ok⟩
end
end Yh
namespace Yi
open Go
variable {P : Program} {ops : Array Oper} {Q : Exit → Act → World → Prop} {md : Region.Mode} {S : World → Prop}
def NoDefer (ops : Array Oper) : Prop := ∀ o ∈ ops.toList, ∀ c, o.op ≠ .defer c
theorem rows_wide {n l : Nat} {row : String} {args : Array Value} {w : World} {R : Value → World → Prop} (h : Rows P row args w R) : RowsIn (Fence.wide.inRound l) n P row args w R :=
 fun c cs _ => let ⟨v, w', r, s⟩ := h c cs; ⟨v, w', r, stepsIn_wide.2 s⟩
theorem op_round {l n : Nat} {o : Oper} {a : Act} {w : World} {K : Act → World → Prop} (hd : ∀ c, o.op ≠ .defer c) (h : o.wp P a w K Q) : o.wpIn (Fence.wide.inRound l) n P a w K Q := by
 unfold Oper.wpIn
 refine ⟨fun f _ => trivial, ?_⟩
 rw [Oper.semAt_plain _ _ _ hd]
 unfold Oper.wp at h
 generalize (execOp a.eval o).run P w = r at h
 cases r with
 | ok x w' =>
  cases x with
  | enter f args => exact ⟨(fun h => by cases h), CallsIn.inRound l (callsIn_wide.2 h)⟩
  | row row args => exact ⟨(fun h => by cases h), rows_wide h⟩
  | value v => exact h
  | skip => exact h
  | defer d => exact h
  | _ => exact False.elim h
 | halt x w' =>
  cases x with
  | panic v => exact h
  | _ => exact False.elim h
theorem any_round {l n : Nat} (hd : NoDefer ops) (hL : ¬ LetsOut Q) : ∀ (fuel : Nat) (listed : Array Bool) (a : Act) (w : World), wpAny P md ops Q fuel listed a w → wpAnyIn (Fence.wide.inRound l) n P md ops Q fuel listed a w
 | 0, _, _, _, h => h
 | fuel + 1, listed, a, w, h => ⟨h.1, fun i hi => by
  have H := h.2 i hi
  have ih := any_round (l := l) (n := n) hd hL fuel (listed.setIfInBounds i true)
  unfold wpOp at H
  unfold wpOpIn
  cases ho : ops[i]? with
  | none => rw [ho] at H; exact ih _ _ H
  | some o =>
   rw [ho] at H
   have hm : o ∈ ops.toList := by
    have := Array.mem_of_getElem? ho
    exact Array.mem_def.1 this
   dsimp only at H ⊢
   split
   ·rename_i hw
    rw [if_pos hw] at H
    rcases H with H | ⟨_, H⟩
    ·exact Oper.wpIn_mono ih (op_round (hd o hm) H)
    ·exact (hL H).elim
   ·rename_i hw
    rw [if_neg hw] at H
    exact ⟨fun _ _ => trivial, ih _ _ H⟩⟩
theorem held_round {l n id : Nat} {a : Act} {w : World} (hm : P.follows .mixedOrders = true) (hd : NoDefer ops) (hL : ¬ LetsOut Q) (hS : S w.drew)
  (h : S w.drew → wpAnyH P .any ops Q S ops.size (Array.replicate ops.size false) a w.drew) : (Code.region id ops true).wpIn (Fence.wide.inRound l) n P Q a w :=
 wpIn_region_any hm (any_round hd hL _ _ _ _ (wpAny_of_held _ _ _ _ (h hS)))
theorem late_round (s : Nat) {l n id : Nat} {a : Act} {w : World} (hm : P.follows .mixedOrders = true) (hd : NoDefer ops) (hL : ¬ LetsOut Q) (hS : S w.drew)
  (h : S w.drew → I7.walkL P .any ops Q S s ops.size (Array.replicate ops.size false) a w.drew) : (Code.region id ops true).wpIn (Fence.wide.inRound l) n P Q a w :=
 wpIn_region_any hm (any_round hd hL _ _ _ _ (I7.wpAny_of_late _ _ _ _ (h hS (I7.shut_none _))))
section
variable {n : Nat}
theorem yi_op {i : Nat} {o : Oper} {v : Value} {a : Act} (hi : ops[i]? = some o) (hy : YieldsIf P ops S o v a)
  {K : Act → World → Prop} {w : World} (hS : S w) (h : K (a.put o.dst v) w) : wpOpIn Fence.wide n P ops Q i K a w := by
 unfold Go.wpOpIn
 simp only [hi]
 rcases hy with ⟨hw, hv⟩ | ⟨hw, rfl⟩
 ·simp only [hw, if_true, Oper.wpIn, show Fence.wide.round = none from rfl, Oper.semAt_none, hv w hS, Oper.uponIn]; exact ⟨fun _ _ => trivial, h⟩
 ·simp only [hw, Bool.false_eq_true, if_false]; exact ⟨fun _ _ => trivial, h⟩
theorem wpOpIn_putS {j : Nat} {oi oj : Oper} {v : Value} (hj : ops[j]? = some oj) (hap : oi.apart ops oj = true)
  (hsi : ∀ cs b, oi.op ≠ .select cs b) (hsj : ∀ cs b, oj.op ≠ .select cs b)
  (hQ : ∀ c a w, Q (.panic c) (a.put oi.dst v) w → Q (.panic c) a w) {K : Act → World → Prop} {a : Act} {w : World}
  (hy : YieldsIf P ops S oi v a) (h : wpOpIn Fence.wide n P ops Q j K (a.put oi.dst v) w) :
  wpOpIn Fence.wide n P ops Q j (fun a' w' => YieldsIf P ops S oi v a' ∧ K (a'.put oi.dst v) w') a w := by
 obtain ⟨h1, h2, h3⟩ := Oper.apart_spec hap
 have keep : ∀ (a : Act), YieldsIf P ops S oi v a → ∀ u, YieldsIf P ops S oi v (a.put oj.dst u) := fun a hy u =>
  hy.of_same (execOp_put oi hsi a oj.dst u h3) (wanted_put oi a oj.dst u h3)
 have keepD : ∀ d, YieldsIf P ops S oi v { a with defers := d :: a.defers } := fun d => hy.of_same rfl rfl
 unfold wpOpIn at *
 simp only [hj] at *
 rw [wanted_put oj a oi.dst v h1] at h
 split
 ·rename_i hw
  simp only [hw, if_true] at h
  unfold Oper.wpIn at *
  refine ⟨fun _ _ => trivial, ?_⟩
  have h := h.2
  rw [show Fence.wide.round = none from rfl, Oper.semAt_none, execOp_put oj hsj a oi.dst v h1] at h
  rw [show Fence.wide.round = none from rfl, Oper.semAt_none]
  generalize (execOp a.eval oj).run P w = r at *
  cases r with
  | ok x w' =>
   cases x <;> simp only [Oper.uponIn] at h ⊢
   case value u => exact ⟨keep a hy u, by rw [← Act.put_comm a v u h2]; exact h⟩
   case skip => exact ⟨keep a hy _, by rw [← Act.put_comm a v undef h2]; exact h⟩
   case defer d =>
    refine ⟨keep _ (keepD d) _, ?_⟩
    rw [← Act.put_comm _ v undef h2, ← Act.put_defers]
    exact h
   case enter f args =>
    refine ⟨h.1, CallsIn.mono h.2 fun e w'' he => ?_⟩
    cases e with
    | returned u => exact ⟨keep a hy u, by rw [← Act.put_comm a v u h2]; exact he⟩
    | panicked c => exact hQ _ _ _ he
    | outgrown => exact he
   case row row args => exact ⟨h.1, RowsIn.mono h.2 fun u w'' he => ⟨keep a hy u, by rw [← Act.put_comm a v u h2]; exact he⟩⟩
   case round l f tmps assign body =>
    refine ⟨h.1, RoundIn.mono h.2 fun e w'' he => ?_⟩
    cases e with
    | returned u => exact ⟨keep a hy u, by rw [← Act.put_comm a v u h2]; exact he⟩
    | panicked c => exact hQ _ _ _ he
    | outgrown => exact he
  | halt x w' =>
   cases x <;> simp only [Oper.uponIn] at h ⊢
   case panic u => exact hQ _ _ _ h
 ·rename_i hw
  simp only [hw] at h
  exact ⟨fun _ _ => trivial, keep a hy _, by rw [← Act.put_comm a v undef h2]; exact h.2⟩
def wpAnyW (n : Nat) (P : Program) (md : Region.Mode) (ops : Array Oper) (Q : Exit → Act → World → Prop) (S : World → Prop) : Nat → Array Bool → Act → World → Prop
 | 0, listed, a, w => Region.ready md ops listed = [] ∧ Q .normal a w
 | fuel + 1, listed, a, w =>
  (Region.ready md ops listed = [] → Q .normal a w) ∧
  ∀ i ∈ Region.ready md ops listed, wpOpIn Fence.wide n P ops Q i (fun a' w' => S w' ∧ wpAnyW n P md ops Q S fuel (listed.setIfInBounds i true) a' w') a w
theorem wpAny_of_W : ∀ (fuel : Nat) (listed : Array Bool) (a : Act) (w : World), wpAnyW n P md ops Q S fuel listed a w → wpAnyIn Fence.wide n P md ops Q fuel listed a w
 | 0, _, _, _, h => h
 | fuel + 1, _, _, _, h => ⟨h.1, fun i hi => wpOpIn_mono (fun a' w' h' => wpAny_of_W fuel _ a' w' h'.2) (h.2 i hi)⟩
theorem wpAnyW_first {i : Nat} {oi : Oper} {v : Value} (hi : ops[i]? = some oi) (hsel : ∀ (j : Nat) (o : Oper) cs b, ops[j]? = some o → o.op ≠ .select cs b)
  (hQ : ∀ c a w, Q (.panic c) (a.put oi.dst v) w → Q (.panic c) a w) :
  ∀ (fuel : Nat) (listed : Array Bool) (a : Act) (w : World),
   (∀ j oj, ops[j]? = some oj → j ≠ i → listed.getD j true = false → (∀ e ∈ oj.after, Region.binds md e = true → e.on ≠ i) → oi.apart ops oj = true) →
   i ∈ Region.ready md ops listed → YieldsIf P ops S oi v a → S w →
   wpAnyW n P md ops Q S fuel (listed.setIfInBounds i true) (a.put oi.dst v) w → wpAnyW n P md ops Q S (fuel + 1) listed a w := by
 intro fuel
 induction fuel with
 | zero =>
  intro listed a w _ hr hy hS H
  refine ⟨fun h => (by rw [h] at hr; cases hr), fun j hj => ?_⟩
  by_cases hji : j = i
  ·subst hji; exact yi_op hi hy hS ⟨hS, H⟩
  ·have := I7.rdy_mono hj (Ne.symm hji)
   rw [H.1] at this
   cases this
 | succ fuel ih =>
  intro listed a w hfree hr hy hS H
  refine ⟨fun h => (by rw [h] at hr; cases hr), fun j hj => ?_⟩
  by_cases hji : j = i
  ·subst hji; exact yi_op hi hy hS ⟨hS, H⟩
  ·have h1 := H.2 j (I7.rdy_mono hj (Ne.symm hji))
   obtain ⟨hjun, oj, hoj, hall⟩ := mem_ready.1 hj
   have hnot : ∀ e ∈ oj.after, Region.binds md e = true → e.on ≠ i := fun e he hb heq => by
    have h1 := hall e he hb
    have h0 := (mem_ready.1 hr).1
    rw [heq] at h1
    rcases Nat.lt_or_ge i listed.size with h' | h'
    ·simp [h'] at h0 h1; rw [h0] at h1; cases h1
    ·simp [Array.getElem?_eq_none h'] at h1
   have h2 := wpOpIn_putS hoj (hfree j oj hoj hji hjun hnot) (fun cs b => hsel i oi cs b hi) (fun cs b => hsel j oj cs b hoj) hQ hy h1
   have hfree' : ∀ k ok, ops[k]? = some ok → k ≠ i → (listed.setIfInBounds j true).getD k true = false →
     (∀ e ∈ ok.after, Region.binds md e = true → e.on ≠ i) → oi.apart ops ok = true := fun k ok hk hki hun hno => by
    refine hfree k ok hk hki ?_ hno
    by_cases hjk : j = k
    ·subst hjk; exact hjun
    ·rw [I7.getD_ne hjk] at hun; exact hun
   refine wpOpIn_mono (fun a' w' h3 => ⟨h3.2.1, ih (listed.setIfInBounds j true) a' w' hfree' (I7.rdy_mono hr hji) h3.1 h3.2.1 ?_⟩) h2
   rw [Array.setIfInBounds_comm _ _ hji]
   exact h3.2.2
theorem wt {i : Nat} {oi : Oper} {rest : List Oper} {v : Value} {fuel : Nat} {listed : Array Bool} {a : Act} {w : World} (hS : S w)
  (h : wpAnyW n P md ops Q S fuel (listed.setIfInBounds i true) (a.put oi.dst v) w)
  (hi : ops.toList.drop i = oi :: rest := by rfl) (hs : Region.noSelect ops = true := by kernel_rfl) (hf : Region.free md ops listed i = true := by kernel_rfl) (hr : (Region.ready md ops listed).contains i = true := by kernel_rfl)
  (hQ : ∀ c a w, Q (.panic c) (a.put oi.dst v) w → Q (.panic c) a w := by exact fun _ _ _ h => h) (hw : Region.wanted oi (yielded ops a.tmps) = true := by kernel_rfl)
  (hv : ∀ w, S w → (execOp a.eval oi).run P w = .ok (.value v) w := by (intro w hSw; go_simp; try (with_reducible rfl))) : wpAnyW n P md ops Q S (fuel + 1) listed a w :=
 wpAnyW_first (I0.ops_at hi) (Region.noSelect_spec hs) hQ fuel listed a w (Region.free_spec (I0.ops_at hi) hf) (by simpa using hr) (.inl ⟨hw, hv⟩) hS h
theorem wl {i : Nat} {oi : Oper} {rest : List Oper} {v : Value} {fuel : Nat} {listed : Array Bool} {a : Act} {w : World} (hS : S w)
  (hv : ∀ w, S w → (execOp a.eval oi).run P w = .ok (.value v) w)
  (h : wpAnyW n P md ops Q S fuel (listed.setIfInBounds i true) (a.put oi.dst v) w)
  (hi : ops.toList.drop i = oi :: rest := by rfl) (hs : Region.noSelect ops = true := by kernel_rfl) (hf : Region.free md ops listed i = true := by kernel_rfl) (hr : (Region.ready md ops listed).contains i = true := by kernel_rfl)
  (hQ : ∀ c a w, Q (.panic c) (a.put oi.dst v) w → Q (.panic c) a w := by exact fun _ _ _ h => h) (hw : Region.wanted oi (yielded ops a.tmps) = true := by kernel_rfl) : wpAnyW n P md ops Q S (fuel + 1) listed a w :=
 wt hS h hi hs hf hr hQ hw hv
theorem wc {i : Nat} {o : Oper} {rest : List Oper} {fuel : Nat} {listed : Array Bool} {a : Act} {w : World}
  (h : ∀ K' : Act → World → Prop, Shut (∀ a w, S w → (S w → wpAnyW n P md ops Q S fuel (listed.setIfInBounds i true) a w) → K' a w) → o.wpIn Fence.wide n P a w K' Q)
  (hr : Region.ready md ops listed = [i] := by kernel_rfl) (hi : ops.toList.drop i = o :: rest := by rfl)
  (hw : Region.wanted o (yielded ops a.tmps) = true := by kernel_rfl) : wpAnyW n P md ops Q S (fuel + 1) listed a w :=
 ⟨fun h0 => (by rw [hr] at h0; cases h0), fun j hj => by
  rw [hr] at hj
  have hji : j = i := by simpa using hj
  subst hji
  unfold wpOpIn
  rw [I0.ops_at hi]
  dsimp only
  rw [if_pos hw]
  exact h _ (fun a w hS hW => ⟨hS, hW hS⟩)⟩
theorem wdone {listed : Array Bool} {a : Act} {w : World} (hr : Region.ready md ops listed = []) (h : Q .normal a w) : ∀ fuel, wpAnyW n P md ops Q S fuel listed a w
 | 0 => ⟨hr, h⟩
 | _ + 1 => ⟨fun _ => h, by rw [hr]; simp⟩
theorem held_wide {id : Nat} {a : Act} {w : World} (hm : P.follows .mixedOrders = true) (hS : S w.drew)
  (h : S w.drew → wpAnyW n P .any ops Q S ops.size (Array.replicate ops.size false) a w.drew) : (Code.region id ops true).wpIn Fence.wide n P Q a w :=
 wpIn_region_any hm (wpAny_of_W _ _ _ _ (h hS))
end
end Yi
namespace P3
open Ieee Go Go.RowKit Go.Proofs Go.Proofs.YtnbdoidccacdnaaGreatDoor Ow Pl Gp F1 I0 W0 S4 M0 N2
attribute [local go_sem ↓] Go.wp_at_zero Go.wp_at_succ
def insN (X : List Nat) : List Value := X.map fun (n : Nat) => Value.int .i64 (n : Int)
theorem insN_at {X : List Nat} {j : Nat} (h : j < X.length) : (insN X)[j]? = some (.int .i64 ((X.getD j 0 : Nat) : Int)) := by
 simp [insN, List.getElem?_eq_getElem h]
def bitsOk (p : Nat) : Bool := (fun l : List Nat => (List.range (2 ^ p)).all fun i => i == 0 || decide (bits BinOp.or IntKind.i64 ((l.getD (i / 2) 0 : Nat) / 2 : Int) (wrap64 (bits BinOp.and IntKind.i64 (i : Int) 1 * 2 ^ (p - 1))) = ((l.getD i 0 : Nat) : Int))) (bitsG p)
theorem bits_ok : ∀ p : Fin 8, bitsOk p.val = true ∧ (bitsG p.val).length = 2 ^ p.val ∧ (bitsG p.val).getD 0 0 = 0 := by decide +kernel
theorem bits_map {p : Nat} (hp : p ≤ 7) : bitsG p = (List.range (2 ^ p)).map (fun j => (bitsG p).getD j 0) := by
 have h := (bits_ok ⟨p, by omega⟩).2.1
 dsimp only at h
 refine List.ext_getElem (by simpa using h) fun i h1 h2 => ?_
 simp [List.getElem?_eq_getElem h1]
theorem bits_val {p i : Nat} (hp : p ≤ 7) (hi : i < 2 ^ p) (h0 : 0 < i) : bits BinOp.or IntKind.i64 (((bitsG p).getD (i / 2) 0 : Nat) / 2 : Int) (wrap64 (bits BinOp.and IntKind.i64 (i : Int) 1 * 2 ^ (p - 1))) = (((bitsG p).getD i 0 : Nat) : Int) := by
 have h0' := (bits_ok ⟨p, by omega⟩).1
 unfold bitsOk at h0'
 dsimp only at h0'
 have h := List.all_eq_true.1 h0' i (List.mem_range.2 hi)
 simp only [Bool.or_eq_true, beq_iff_eq, decide_eq_true_eq] at h
 rcases h with h | h
 ·omega
 ·exact h
theorem insN_set (X : List Nat) (i v : Nat) : (insN X).set i (.int .i64 (v : Int)) = insN (X.set i v) := by
 unfold insN; rw [List.map_set]
theorem upRow_at (f : Nat → Nat) {m i j : Nat} (h : j < m) : (upRow f m i).getD j 0 = if j < i then f j else 0 := by
 simp [upRow, List.getElem?_eq_getElem, h]
theorem dBits {p : Nat} {pi : Int} (w : World) (hp : pi = (p : Int)) (hp9 : p ≤ 7) :
  Calls Tryz.prog 101 #[.int .i64 pi] w
   fun e w' => ∃ b, e = .returned (.slice (some ⟨b, 0, none⟩) (2 ^ p) (2 ^ p)) ∧ Blk w' b 3 (insN (bitsG p)) ∧ w.heap.size ≤ b ∧ Bel w w' := by
 subst hp
 have h2 : 2 ^ p ≤ 512 := Nat.le_trans (Nat.pow_le_pow_right (by decide) hp9) (by decide)
 go_enter Tryz.func101, Tryz.ntmps101
 have hw : wrap64 ((2 : Int) ^ p) = ((2 ^ p : Nat) : Int) := by
  have : ((2 : Int) ^ p) = ((2 ^ p : Nat) : Int) := by push_cast; rfl
  rw [this]
  generalize 2 ^ p = N at *
  unfold wrap64 at *; omega
 go_upto_region 3 with fail
 go_wp2_with (at_make; refine wpList_mk _ rfl _ _ 38 rfl 3 (.int .i64 0) 8 Tryz.underlying38 info3 rfl (2 ^ p) (congrArg (Value.int .i64) hw) (congrArg (Value.int .i64) hw) (by omega) (by omega) ?_; intro w1 hk1 hl1 hs1)
 have hN : ((2 : Int) ^ p) = ((2 ^ p : Nat) : Int) := by push_cast; rfl
 rw [hN]
 obtain ⟨N, hNe⟩ : ∃ N, N = 2 ^ p := ⟨_, rfl⟩
 rw [← hNe] at hk1 h2 ⊢
 have HNE := Ho.mk hNe
 have hN1 : 0 < N := by rw [hNe]; exact Nat.two_pow_pos p
 clear hN hw hNe
 obtain ⟨bo, hbo⟩ : ∃ bo, bo = w.heap.size := ⟨_, rfl⟩
 rw [← hbo] at hk1 hs1 ⊢
 have HBO := Ho.mk hbo
 have HK1 := Ho.mk hk1
 have HL1 := Ho.mk hl1
 clear hk1 hl1 hs1 hbo
 go_loopw [16] (fun v wr => ∃ (i : Nat), i ≤ N ∧ v = .int .i64 i ∧ Ho (Blk wr bo 3 (insN (upRow (fun j => (bitsG p).getD j 0) N i))) ∧ Ho (Bel w wr)) (fun v _ => N - (intOf v).toNat)
 case atStart => exact ⟨0, Nat.zero_le _, rfl, ⟨by rw [upRow_zero]; simpa [insN] using HK1.out⟩, HL1⟩
 case round =>
  obtain ⟨i, hi, rfl, FK, HW⟩ := hrel
  rcases Nat.lt_or_ge i N with hlt | hge
  ·rcases Nat.eq_zero_or_pos i with rfl | hpos
   ·go_wp2
    go_roundw
    case rel =>
     have f0 := (bits_ok ⟨p, by omega⟩).2.2
     dsimp only at f0
     have hz := upRow_set (fun j => (bitsG p).getD j 0) N 0 hlt
     simp only [f0, upRow_zero] at hz
     rw [show (List.replicate N 0).set 0 0 = List.replicate N 0 from by
      apply List.ext_getElem (by simp)
      intro i h1 h2
      rw [List.getElem_set]; split <;> simp] at hz
     refine ⟨1, by omega, by simp, ⟨?_⟩, HW⟩
     rw [← hz, ← upRow_zero (fun j => (bitsG p).getD j 0)]; exact FK.out
    case measure => simp [intOf]; omega
   ·have hl2 : i / 2 < (upRow (fun j => (bitsG p).getD j 0) N i).length := by rw [upRow_len]; omega
    have hl3 : i < (upRow (fun j => (bitsG p).getD j 0) N i).length := by rw [upRow_len]; omega
    have y0 := FK.out.cell (insN_at hl2)
    rw [upRow_at _ (by omega), if_pos (by omega)] at y0
    obtain ⟨x, hx⟩ : ∃ x, x = (bitsG p).getD (i / 2) 0 := ⟨_, rfl⟩
    rw [← hx] at y0
    have HX := Ho.mk hx
    clear hx
    have y1 := FK.out.cell (insN_at hl3)
    have z1 := FK.out.free i
    have hp1 : 0 < p := by
     rcases Nat.eq_zero_or_pos p with rfl | h
     ·have := HNE.out; simp at this; omega
     ·exact h
    go_upto_region 8 with fail
    have BV := Ho.mk (bits_val hp9 (by rw [← HNE.out]; exact hlt) hpos)
    rw [← HX.out] at BV
    go_region
    go_wp2
    go_roundw
    case rel =>
     refine ⟨i + 1, by omega, by simp, ⟨?_⟩, ⟨?_⟩⟩
     ·rw [BV.out]
      have hk := FK.out.set i (.int .i64 (((bitsG p).getD i 0 : Nat) : Int))
      rw [insN_set, upRow_set (fun j => (bitsG p).getD j 0) N i hlt] at hk
      exact hk.bel (Bel.refl _).drew
     ·exact ⟨((HW.out.drew.out).setCell (by have := HBO.out; dsimp only; omega) _)⟩
    case measure => simp [intOf]; omega
  ·obtain rfl : i = N := by omega
   rw [upRow_all] at FK
   go_wp2
   go_ret
   exact ⟨bo, by rw [HNE.out]; rfl, by rw [bits_map hp9, ← HNE.out]; exact FK.out, by have := HBO.out; omega, HW.out⟩
end P3
namespace P4
open Ieee Go Go.RowKit Go.Proofs Go.Proofs.YtnbdoidccacdnaaGreatDoor Ow Pl Dp Dt Gp F1 I0 W0 S4 P0 M0 M1 M3 P3 W4
attribute [local go_sem ↓] Go.wp_at_zero Go.wp_at_succ
def logI (n : Nat) : Int := if n ≠ 0 ∧ 2 ^ Nat.log2 n = n ∧ n ≤ 1024 then (Nat.log2 n : Int) else -1
def logOk (n : Nat) : Bool := n == 0 || ((bits .and .i64 (n : Int) ((n : Int) - 1) == 0) == decide (2 ^ Nat.log2 n = n) && (decide (2 ^ Nat.log2 n ≠ n) || tz n == Nat.log2 n))
theorem log_ok : ∀ n : Fin 1100, logOk n.val = true := by decide +kernel
theorem log_fact {n : Nat} (h : n < 1100) (h0 : n ≠ 0) : ((bits .and .i64 (n : Int) ((n : Int) - 1) = 0) ↔ 2 ^ Nat.log2 n = n) ∧ (2 ^ Nat.log2 n = n → tz n = Nat.log2 n) := by
 have := log_ok ⟨n, h⟩
 unfold logOk at this
 simp only [Bool.or_eq_true, Bool.and_eq_true, beq_iff_eq, decide_eq_true_eq] at this
 rcases this with q | ⟨q1, q2⟩
 ·exact (h0 q).elim
 ·constructor
  ·constructor
   ·intro e; rw [e] at q1; simpa using q1
   ·intro e; rw [e] at q1; simpa using q1
  ·intro e; exact q2.resolve_left (fun c => c e)
theorem dLog {n : Nat} {fn : Nat} (hfn : fn = 100) (w : World) (h : n < 1100) (T : Tab w) : Calls Tryz.prog fn #[.int .i64 (n : Int)] w fun e w' => e = .returned (.int .i64 (logI n)) ∧ w = w' := by
 have TT := Ho.mk T
 clear T
 subst hfn
 obtain ⟨k, hk⟩ : ∃ k : Int, k = (n : Int) := ⟨_, rfl⟩
 by_cases h0 : n = 0
 ·subst h0
  have e : logI 0 = -1 := by decide
  rw [e]
  go_enter Tryz.func100, Tryz.ntmps100
  go_wp2
  go_ret
  exact ⟨rfl, rfl⟩
 ·obtain ⟨f1, f2⟩ := log_fact h h0
  have F2 := Ho.mk f2
  have hk0 : 0 < k := by omega
  have hk1 : k < 1100 := by omega
  by_cases hp : 2 ^ Nat.log2 n = n
  ·have hb : bits .and .i64 k (k - 1) = 0 := by rw [hk]; exact f1.2 hp
   have HE := Ho.mk (show logI n = if n ≤ 1024 then (Nat.log2 n : Int) else -1 by unfold logI; by_cases c : n ≤ 1024 <;> simp [h0, hp, c])
   have HT := Ho.mk (f2 hp)
   rw [HE.out, ← hk]
   have HK := Ho.mk hk
   clear f1 f2 hp h0 hk
   by_cases c : 1024 < k
   ·rw [if_neg (by have := HK.out; omega)]
    go_enter Tryz.func100, Tryz.ntmps100
    go_wp2
    go_ret
    exact ⟨rfl, rfl⟩
   ·rw [if_pos (by have := HK.out; omega)]
    go_enter Tryz.func100, Tryz.ntmps100
    go_wp2_with (go_at_call 120; (with_reducible refine (E1.tz_callsI _ _ (by omega) (by omega) TT.out).mono ?_); rintro e w' ⟨rfl, rfl⟩)
    go_ret
    refine ⟨?_, rfl⟩
    rw [show k.toNat = n by have := HK.out; omega, HT.out]; rfl
  ·have hb : ¬ bits .and .i64 k (k - 1) = 0 := by rw [hk]; exact fun e => hp (f1.1 e)
   have HE : logI n = -1 := by unfold logI; rw [if_neg (fun q => hp q.2.1)]
   rw [HE, ← hk]
   clear f1 f2 hp h0 hk HE F2
   go_enter Tryz.func100, Tryz.ntmps100
   go_wp2
   go_ret
   exact ⟨rfl, rfl⟩
end P4
namespace P5
open Ieee Go Go.RowKit Go.Proofs Go.Proofs.YtnbdoidccacdnaaGreatDoor Ow Pl Dp Dt Gp F1 I0 W0 S4 P0 M0 M1 M3 P3 W4
attribute [local go_sem ↓] Go.wp_at_zero Go.wp_at_succ
def swapK (od X : List Nat) (k : Nat) : List Nat := loopN (fun k l => swapAt opsN l k (od.getD k 0)) k X
theorem swapK_len (od X : List Nat) (k : Nat) : (swapK od X k).length = X.length := by
 refine loopN_inv (I := fun _ (s : List Nat) => s.length = X.length) k rfl ?_
 intro k s _ h
 show (swapAt opsN s k _).length = _
 unfold swapAt; split <;> simp [h]
theorem swapK_succ (od X : List Nat) (k : Nat) : swapK od X (k + 1) = swapAt opsN (swapK od X k) k (od.getD k 0) := rfl
theorem dSwap {b bo c co N : Nat} {X od : List Nat} (W0 : World) (KX : Fz W0 b X) (KO : Blk W0 bo 3 (insN od)) (hX : X.length = N) (hO : od.length = N) (hlt : ∀ k, k < N → od.getD k 0 < N) (hN : N ≤ 100000) (hne : bo ≠ b) :
  Calls Tryz.prog 102 #[.slice (some ⟨b, 0, none⟩) N c, .slice (some ⟨bo, 0, none⟩) N co] W0
   fun e w' => e = .returned (.tuple #[]) ∧ Fz w' b (swapG opsN od X) ∧ Gr b W0 w' := by
 have HL := Ho.mk hlt
 have K1 := Ho.mk KX
 have K2 := Ho.mk KO
 have HX := Ho.mk hX
 have HO := Ho.mk hO
 clear hlt KX KO hX hO
 go_enter Tryz.func102, Tryz.ntmps102
 go_wp2_with fail
 go_loopw [8] (fun v wr => ∃ (i : Nat), i ≤ N ∧ v = .int .i64 i ∧ Ho (Fz wr b (swapK od X i)) ∧ Ho (Gr b W0 wr)) (fun v _ => N - (intOf v).toNat)
 case atStart => exact ⟨0, Nat.zero_le _, rfl, K1, ⟨Gr.refl _ _⟩⟩
 case round =>
  obtain ⟨i, hi, rfl, FK, HW⟩ := hrel
  rcases Nat.lt_or_ge i N with hlt | hge
  ·have y0 := (HW.out.blk K2.out hne).cell (insN_at (show i < od.length by rw [HO.out]; exact hlt))
   obtain ⟨x, hx⟩ : ∃ x, x = od.getD i 0 := ⟨_, rfl⟩
   have hxN := HL.out i hlt
   rw [← hx] at y0 hxN
   have HXX := Ho.mk hx
   clear hx
   have hl1 : i < (swapK od X i).length := by rw [swapK_len, HX.out]; exact hlt
   have hl2 : x < (swapK od X i).length := by rw [swapK_len, HX.out]; exact hxN
   obtain ⟨r1, y1, r1l, r1c⟩ := FK.out.at_ hl1
   obtain ⟨r2, y2, r2l, r2c⟩ := FK.out.at_ hl2
   have z1 := FK.out.free i
   have z2 := FK.out.free x
   have HR := Ho.mk (And.intro (And.intro r1l r1c) (And.intro r2l r2c))
   clear r1l r1c r2l r2c hl1 hl2
   by_cases hc : (i : Int) < (x : Int)
   ·--@@
    go_upto_region 4 with fail
    go_region
    go_wp2
    go_roundw
    case rel =>
     refine ⟨i + 1, by omega, by simp, ⟨?_⟩, ⟨?_⟩⟩
     ·rw [swapK_succ, ← HXX.out, swapAt, if_pos (by omega)]
      have hk := (FK.out.set i HR.out.2.1 (x := nthN (swapK od X i) x) HR.out.2.2).set x HR.out.1.1 (x := nthN (swapK od X i) i) HR.out.1.2
      exact hk.bel (Bel.refl _).drew
     ·exact ((HW.out.drew).set i _).set x _
    case measure => simp [intOf]; omega
   ·go_wp2
    go_roundw
    case rel =>
     refine ⟨i + 1, by omega, by simp, ⟨?_⟩, HW⟩
     rw [swapK_succ, ← HXX.out, swapAt, if_neg (by omega)]; exact FK.out
    case measure => simp [intOf]; omega
  ·obtain rfl : i = N := by omega
   go_wp2
   go_end0
   exact ⟨rfl, by unfold swapG; rw [HO.out]; exact FK.out, HW.out⟩
end P5
namespace P6
open Ieee Go Go.RowKit Go.Proofs Go.Proofs.YtnbdoidccacdnaaGreatDoor Ow Pl Dp Dt Gp F1 I0 W0 S4 S6 P0 M0 M1 M3 P3 P4 W4
attribute [local go_sem ↓] Go.wp_at_zero Go.wp_at_succ
def TellsV (W0 : World) (v0 v1 : Value) (e : Ending) (w' : World) : Prop := e = .returned (.agg #[v0, v1]) ∧ Bel W0 w'
theorem dPart {b b' o n m f t c c' : Nat} (w : World) (hft : f < t) (htc : t ≤ c) (htc' : t ≤ c') (hn : n ≤ c) (hm : m ≤ c') (hc : c ≤ 9223372036854775807) (hc' : c' ≤ 9223372036854775807) :
  Calls Tryz.prog 105 #[.agg #[.slice (some ⟨b, o, none⟩) n c, .slice (some ⟨b', o, none⟩) m c'], .int .i64 (f : Int), .int .i64 (t : Int)] w
   (TellsV w (.slice (some ⟨b, o + f, none⟩) (t - f) (c - f)) (.slice (some ⟨b', o + f, none⟩) (t - f) (c' - f))) := by
 go_enter Tryz.func105, Tryz.ntmps105
 have KV := Ho.mk ((Blk.new w [.slice (some ⟨b, o, none⟩) n c, .slice (some ⟨b', o, none⟩) m c'] 24).old (.cells #[.slice none 0 0, .slice none 0 0] 24))
 have KR := Ho.mk (Blk.new (w.alloc (.cells #[.slice (some ⟨b, o, none⟩) n c, .slice (some ⟨b', o, none⟩) m c'] 24)) [.slice none 0 0, .slice none 0 0] 24)
 have g0 := Ho.mk (((Bel.refl w).alloc (.cells #[.slice (some ⟨b, o, none⟩) n c, .slice (some ⟨b', o, none⟩) m c'] 24)).alloc (.cells #[.slice none 0 0, .slice none 0 0] 24))
 rw [World.size_alloc] at KR
 go_wp2_with fail
 generalize (w.alloc (.cells #[.slice (some ⟨b, o, none⟩) n c, .slice (some ⟨b', o, none⟩) m c'] 24)).alloc (.cells #[.slice none 0 0, .slice none 0 0] 24) = W at *
 have y0 := KV.out.cell (i := 0) rfl
 have y1 := KV.out.cell (i := 1) rfl
 have x0 := KR.out.cell (i := 0) rfl
 have x1 := KR.out.cell (i := 1) rfl
 have z0 := KR.out.free 0
 have z1 := KR.out.free 1
 --@@
 go_region
 go_wp2
 exact bodyPost_ret (resV (fn := Tryz.f105) rfl rfl ((KR.out.drew.set 0 _).set 1 _)) rfl ⟨rfl, ⟨((g0.out.out.drew).setCell (p := ⟨w.heap.size + 1, 0, none⟩) (by dsimp only; omega) _).setCell (p := ⟨w.heap.size + 1, 1, none⟩) (by dsimp only; omega) _⟩⟩
theorem dRightV {n m c c' : Nat} {A B : Option Addr} (w : World) (T : Tab w) (hn : n < 1100) (hm : m < 1100) :
  Calls Tryz.prog 99 #[.agg #[.slice A n c, .slice B m c']] w (fun e w' => e = .returned (.bool (decide (n = m ∧ 0 ≤ logI n))) ∧ Bel w w') := by
 have lg := (fun w' (g : Bel w w') => dLog (fn := 100) rfl w' hn (T.bel g))
 generalize logI n = z at *
 have LG := Ho.mk lg
 clear lg
 have KV := Ho.mk (Blk.new w [.slice A n c, .slice B m c'] 24)
 have g0 := Ho.mk ((Bel.refl w).alloc (.cells #[.slice A n c, .slice B m c'] 24))
 by_cases he : n = m
 ·subst he
  go_enter Tryz.func99, Tryz.ntmps99
  go_wp2_with (go_at_call 100; (with_reducible refine (LG.out _ g0.out).mono ?_); rintro e w' ⟨rfl, rfl⟩)
  go_ret
  exact ⟨by simp, g0.out⟩
 ·have hne : ¬ (n : Int) = (m : Int) := by omega
  go_enter Tryz.func99, Tryz.ntmps99
  go_wp2_with fail
  go_ret
  exact ⟨by simp [hne, he], g0.out⟩
theorem dAt {k p q m bw bp bq bc bs : Nat} {CX SX : List Nat} (w : World) (KW : Blk w bw 24 [.slice (some ⟨bc, 0, none⟩) m m, .slice (some ⟨bs, 0, none⟩) m m]) (KP : Blk w bp 3 [.int .i64 (p : Int)]) (KQ : Blk w bq 3 [.int .i64 (q : Int)])
  (FC : Fk w bc CX) (FS : Fk w bs SX) (hp : p ≤ 9) (hq : q ≤ p) (hk : k < 512) (hi : k * 2 ^ (p - q) < m) (hC : CX.length = m) (hS : SX.length = m) (hm : m < 1000000) :
  Calls Tryz.prog 103 #[.int .i64 (k : Int), .pointer (some ⟨bw, 0, none⟩), .pointer (some ⟨bp, 0, none⟩), .pointer (some ⟨bq, 0, none⟩)] w (Tells2 w (nthN CX (k * 2 ^ (p - q)), nthN SX (k * 2 ^ (p - q)))) := by
 have y0 := KW.cell (i := 0) rfl
 have y1 := KW.cell (i := 1) rfl
 have y2 := KP.cell (i := 0) rfl
 have y3 := KQ.cell (i := 0) rfl
 obtain ⟨r, y4, r1, r2⟩ := FC.at_ (i := k * 2 ^ (p - q)) (by omega)
 obtain ⟨s, y5, s1, s2⟩ := FS.at_ (i := k * 2 ^ (p - q)) (by omega)
 have HR := Ho.mk (And.intro (And.intro r1 r2) (And.intro s1 s2))
 have hpq : IntKind.i64.wrap ((p : Int) - (q : Int)) = ((p - q : Nat) : Int) := by rw [IntKind.wrap_i64]; omega
 have hsh : IntKind.i64.wrap ((k : Int) * 2 ^ (p - q)) = ((k * 2 ^ (p - q) : Nat) : Int) := by
  have e : ((k : Int) * 2 ^ (p - q)) = ((k * 2 ^ (p - q) : Nat) : Int) := by push_cast; rfl
  rw [e, IntKind.wrap_i64]
  generalize k * 2 ^ (p - q) = z at *
  omega
 generalize k * 2 ^ (p - q) = z at *
 have hd9 : p - q ≤ 9 := by omega
 generalize p - q = d at *
 clear KW KP KQ FC FS hC hS r1 r2 s1 s2
 go_enter Tryz.func103, Tryz.ntmps103
 go_upto_region 1 with fail
 go_region
 go_wp2
 go_ret2
 exact ⟨r, s, rfl, ⟨HR.out.1.1, HR.out.2.1⟩, ⟨HR.out.1.2, HR.out.2.2⟩, (Bel.refl _).drew⟩
end P6
namespace I8
open Go Go.RowKit Go.Proofs.YtnbdoidccacdnaaGreatDoor I0
section
variable {P : Program} {ops : Array Oper} {Q : Exit → Act → World → Prop} {md : Region.Mode} {S : World → Prop}
theorem rc3 {i j k : Nat} {o o' o'' : Oper} {rest rest' rest'' : List Oper} {fuel : Nat} {listed : Array Bool} {a : Act} {w : World}
  (h : ∀ K' : Act → World → Prop, Shut (∀ a w, S w → (S w → wpAnyH P md ops Q S fuel (listed.setIfInBounds i true) a w) → K' a w) → Oper.wp P o a w K' Q)
  (h' : ∀ K' : Act → World → Prop, Shut (∀ a w, S w → (S w → wpAnyH P md ops Q S fuel (listed.setIfInBounds j true) a w) → K' a w) → Oper.wp P o' a w K' Q)
  (h'' : ∀ K' : Act → World → Prop, Shut (∀ a w, S w → (S w → wpAnyH P md ops Q S fuel (listed.setIfInBounds k true) a w) → K' a w) → Oper.wp P o'' a w K' Q)
  (hr : Region.ready md ops listed = [i, j, k] := by kernel_rfl) (hi : ops.toList.drop i = o :: rest := by rfl) (hj : ops.toList.drop j = o' :: rest' := by rfl) (hk : ops.toList.drop k = o'' :: rest'' := by rfl)
  (hw : Region.wanted o (yielded ops a.tmps) = true := by kernel_rfl) (hw' : Region.wanted o' (yielded ops a.tmps) = true := by kernel_rfl) (hw'' : Region.wanted o'' (yielded ops a.tmps) = true := by kernel_rfl) : wpAnyH P md ops Q S (fuel + 1) listed a w :=
 wpAnyH_ready hr (by simp) (AllReadyH.cons (ops_at hi) (fun K' hK => by rw [if_pos hw]; exact h K' hK) (AllReadyH.cons (ops_at hj) (fun K' hK => by rw [if_pos hw']; exact h' K' hK) (AllReadyH.cons (ops_at hk) (fun K' hK => by rw [if_pos hw'']; exact h'' K' hK) AllReadyH.nil)))
end
end I8
namespace P7
open Ieee Go Go.RowKit Go.Proofs Go.Proofs.YtnbdoidccacdnaaGreatDoor Ow Pl Dp Dt Gp F1 I0 W0 S4 P0 P1 P2 M0 M1 M3 P3 P4 P6 W4
attribute [local go_sem ↓] Go.wp_at_zero Go.wp_at_succ
def mergeS (f half : Nat) (tw : Nat → Nat × Nat) (st : List Nat × List Nat) (k : Nat) : List Nat × List Nat := loopN (mstep opsN f half tw) k st
theorem mergeS_len (f half : Nat) (tw : Nat → Nat × Nat) (st : List Nat × List Nat) (k : Nat) : (mergeS f half tw st k).1.length = st.1.length ∧ (mergeS f half tw st k).2.length = st.2.length := by
 refine loopN_inv (I := fun _ (s : List Nat × List Nat) => s.1.length = st.1.length ∧ s.2.length = st.2.length) k ⟨rfl, rfl⟩ ?_
 intro k s _ h
 simp only [mstep, List.length_set]; exact h
theorem mergeS_succ (f half : Nat) (tw : Nat → Nat × Nat) (st : List Nat × List Nat) (k : Nat) : mergeS f half tw st (k + 1) = mstep opsN f half tw k (mergeS f half tw st k) := rfl
theorem dMerge {half f c c' b b' bw bp bq N : Nat} {X Y : List Nat} {tw : Nat → Nat × Nat} (W0 : World) (KX : Fz W0 b X) (KY : Fz W0 b' Y) (hb : b ≠ b') (hX : X.length = N) (hY : Y.length = N) (hf : f + 2 * half ≤ N) (h0 : 0 < half) (hN : N ≤ 100000) (hc : 2 * half ≤ c) (hc' : 2 * half ≤ c') (hC : c ≤ 9223372036854775807) (hC' : c' ≤ 9223372036854775807)
  (AT : ∀ k, 0 < k → k < half → ∀ w, Gr2 b b' W0 w → Calls Tryz.prog 103 #[.int .i64 (k : Int), .pointer (some ⟨bw, 0, none⟩), .pointer (some ⟨bp, 0, none⟩), .pointer (some ⟨bq, 0, none⟩)] w (Tells2 w (tw k))) :
  Calls Tryz.prog 104 #[.agg #[.slice (some ⟨b, f, none⟩) (2 * half) c, .slice (some ⟨b', f, none⟩) (2 * half) c'], .func (.func 103) #[] #[.pointer (some ⟨bw, 0, none⟩), .pointer (some ⟨bp, 0, none⟩), .pointer (some ⟨bq, 0, none⟩)]] W0
   fun e w' => e = .returned (.tuple #[]) ∧ Fz w' b (mergeG opsN f half tw (X, Y)).1 ∧ Fz w' b' (mergeG opsN f half tw (X, Y)).2 ∧ Gr2 b b' W0 w' := by
 have PT1 : Ho (∀ w, Calls Tryz.prog 105 #[.agg #[.slice (some ⟨b, f, none⟩) (2 * half) c, .slice (some ⟨b', f, none⟩) (2 * half) c'], .int .i64 0, .int .i64 (half : Int)] w (TellsV w (.slice (some ⟨b, f, none⟩) half c) (.slice (some ⟨b', f, none⟩) half c'))) :=
  ⟨fun w => by have h := dPart (b := b) (b' := b') (o := f) (n := 2 * half) (m := 2 * half) (f := 0) (t := half) (c := c) (c' := c') w h0 (by omega) (by omega) hc hc' hC hC'; simpa using h⟩
 have PT2 : Ho (∀ w, Calls Tryz.prog 105 #[.agg #[.slice (some ⟨b, f, none⟩) (2 * half) c, .slice (some ⟨b', f, none⟩) (2 * half) c'], .int .i64 (half : Int), .int .i64 (2 * (half : Int))] w (TellsV w (.slice (some ⟨b, f + half, none⟩) half (c - half)) (.slice (some ⟨b', f + half, none⟩) half (c' - half)))) :=
  ⟨fun w => by have h := dPart (b := b) (b' := b') (o := f) (n := 2 * half) (m := 2 * half) (f := half) (t := 2 * half) (c := c) (c' := c') w (by omega) hc hc' hc hc' hC hC'; rw [show 2 * half - half = half by omega, show ((2 * half : Nat) : Int) = 2 * (half : Int) by omega] at h; exact h⟩
 have K1 := Ho.mk KX
 have K2 := Ho.mk KY
 have A0 := Ho.mk AT
 have HX := Ho.mk hX
 have HY := Ho.mk hY
 have KV := Ho.mk (Blk.new W0 [.slice (some ⟨b, f, none⟩) (2 * half) c, .slice (some ⟨b', f, none⟩) (2 * half) c'] 24)
 have g0 := Ho.mk ((Bel.refl W0).alloc (.cells #[.slice (some ⟨b, f, none⟩) (2 * half) c, .slice (some ⟨b', f, none⟩) (2 * half) c'] 24))
 have lb := KX.lt
 have lb' := KY.lt
 clear KX KY AT hX hY
 go_enter Tryz.func104, Tryz.ntmps104
 go_upto_region 2 with fail
 have hs : (W0.alloc (.cells #[.slice (some ⟨b, f, none⟩) (2 * half) c, .slice (some ⟨b', f, none⟩) (2 * half) c'] 24)).heap.size = W0.heap.size + 1 := World.size_alloc _ _
 generalize W0.alloc (.cells #[.slice (some ⟨b, f, none⟩) (2 * half) c, .slice (some ⟨b', f, none⟩) (2 * half) c'] 24) = W at *
 have y0 := KV.out.cell (i := 0) rfl
 have y1 := KV.out.cell (i := 1) rfl
 go_cut [5, 6] from 14 to 26 (fun s5 s6 wy => ∃ (bE bO : Nat), s5 = .pointer (some ⟨bE, 0, none⟩) ∧ s6 = .pointer (some ⟨bO, 0, none⟩) ∧ Ho (Blk wy bE 24 [.slice (some ⟨b, f, none⟩) half c, .slice (some ⟨b', f, none⟩) half c']) ∧ Ho (Blk wy bO 24 [.slice (some ⟨b, f + half, none⟩) half (c - half), .slice (some ⟨b', f + half, none⟩) half (c' - half)]) ∧ Ho (Bel W wy) ∧ Ho (bE ≠ bO) ∧ Ho (W0.heap.size ≤ bE) ∧ Ho (W0.heap.size ≤ bO))
 case first =>
  refine wp_region_held_drew (S := fun w' => Bel W w') (by kernel_rfl) (Bel.refl _).drew (fun hHeld => ?_)
  (try dsimp only at hHeld)
  generalize W.drew = wx at *
  have n0 := trivial
  repeat' (first
   |
    clear t2
    go_simp
    go_at_call 105
    (with_reducible refine (PT1.out wx).mono ?_); rintro e wx ⟨rfl, bwx⟩
    try go_wp2_with fail
    refine hK.out _ _ (Bel.trans hHeld bwx) (fun hHeld => ?_)
    clear hK K
    try have KE := Ho.mk (KE.out.bel bwx)
    try have KO := Ho.mk (KO.out.bel bwx)
    try have lt_bE := Nat.lt_of_lt_of_le lt_bE bwx.size
    try have lt_bO := Nat.lt_of_lt_of_le lt_bO bwx.size
    clear bwx
    try simp only [Act.put, List.setIfInBounds_toArray, List.set_cons_zero, List.set_cons_succ]
   |
    clear t8
    go_simp
    go_at_call 105
    (with_reducible refine (PT2.out wx).mono ?_); rintro e wx ⟨rfl, bwx⟩
    try go_wp2_with fail
    refine hK.out _ _ (Bel.trans hHeld bwx) (fun hHeld => ?_)
    clear hK K
    try have KE := Ho.mk (KE.out.bel bwx)
    try have KO := Ho.mk (KO.out.bel bwx)
    try have lt_bE := Nat.lt_of_lt_of_le lt_bE bwx.size
    try have lt_bO := Nat.lt_of_lt_of_le lt_bO bwx.size
    clear bwx
    try simp only [Act.put, List.setIfInBounds_toArray, List.set_cons_zero, List.set_cons_succ]
   |
    clear t9
    go_simp
    have le_bE := hHeld.size
    refine hK.out _ _ (Bel.alloc hHeld _) (fun hHeld => ?_)
    clear hK K
    have KE := Ho.mk (Blk.new wx [.slice none 0 0, .slice none 0 0] 24)
    have ga := (Bel.refl wx).alloc (.cells #[.slice none 0 0, .slice none 0 0] 24)
    try have KO := Ho.mk (KO.out.bel ga)
    try have lt_bO := Nat.lt_of_lt_of_le lt_bO ga.size
    clear ga
    have lt_bE : wx.heap.size < (World.alloc wx (.cells #[.slice none 0 0, .slice none 0 0] 24)).heap.size := by rw [World.size_alloc]; exact Nat.lt_succ_self _
    try have ne_bO_bE : bO ≠ wx.heap.size := by omega
    generalize wx.heap.size = bE at *
    generalize World.alloc wx (.cells #[.slice none 0 0, .slice none 0 0] 24) = wx at *
    try simp only [Act.put, List.setIfInBounds_toArray, List.set_cons_zero, List.set_cons_succ]
   |
    clear t10
    go_simp
    have le_bO := hHeld.size
    refine hK.out _ _ (Bel.alloc hHeld _) (fun hHeld => ?_)
    clear hK K
    have KO := Ho.mk (Blk.new wx [.slice none 0 0, .slice none 0 0] 24)
    have ga := (Bel.refl wx).alloc (.cells #[.slice none 0 0, .slice none 0 0] 24)
    try have KE := Ho.mk (KE.out.bel ga)
    try have lt_bE := Nat.lt_of_lt_of_le lt_bE ga.size
    clear ga
    have lt_bO : wx.heap.size < (World.alloc wx (.cells #[.slice none 0 0, .slice none 0 0] 24)).heap.size := by rw [World.size_alloc]; exact Nat.lt_succ_self _
    try have ne_bE_bO : bE ≠ wx.heap.size := by omega
    generalize wx.heap.size = bO at *
    generalize World.alloc wx (.cells #[.slice none 0 0, .slice none 0 0] 24) = wx at *
    try simp only [Act.put, List.setIfInBounds_toArray, List.set_cons_zero, List.set_cons_succ]
   |
    clear t11
    go_simp
    have KO := Ho.mk ((KO.out.far (p := ⟨bE, 0, none⟩) (by dsimp only; omega) (.slice (some ⟨b, f, none⟩) half c)).far (p := ⟨bE, 1, none⟩) (by dsimp only; omega) (.slice (some ⟨b', f, none⟩) half c'))
    have KE := Ho.mk ((KE.out.set 0 (.slice (some ⟨b, f, none⟩) half c)).set 1 (.slice (some ⟨b', f, none⟩) half c'))
    simp only [List.set_cons_zero, List.set_cons_succ] at KE
    refine hK.out _ _ ⟨((hHeld.out.setCell (p := ⟨bE, 0, none⟩) (by dsimp only; omega) (.slice (some ⟨b, f, none⟩) half c)).setCell (p := ⟨bE, 1, none⟩) (by dsimp only; omega) (.slice (some ⟨b', f, none⟩) half c'))⟩ (fun hHeld => ?_)
    clear hK K y0 x0 y1 x1
    have lt_bE : bE < (World.setCell (World.setCell wx ⟨bE, 0, none⟩ (.slice (some ⟨b, f, none⟩) half c)) ⟨bE, 1, none⟩ (.slice (some ⟨b', f, none⟩) half c')).heap.size := by simpa [World.setCell] using lt_bE
    have lt_bO : bO < (World.setCell (World.setCell wx ⟨bE, 0, none⟩ (.slice (some ⟨b, f, none⟩) half c)) ⟨bE, 1, none⟩ (.slice (some ⟨b', f, none⟩) half c')).heap.size := by simpa [World.setCell] using lt_bO
    generalize World.setCell (World.setCell wx ⟨bE, 0, none⟩ (.slice (some ⟨b, f, none⟩) half c)) ⟨bE, 1, none⟩ (.slice (some ⟨b', f, none⟩) half c') = wx at *
    try simp only [Act.put, List.setIfInBounds_toArray, List.set_cons_zero, List.set_cons_succ]
   |
    clear t12
    go_simp
    have KE := Ho.mk ((KE.out.far (p := ⟨bO, 0, none⟩) (by dsimp only; omega) (.slice (some ⟨b, f + half, none⟩) half (c - half))).far (p := ⟨bO, 1, none⟩) (by dsimp only; omega) (.slice (some ⟨b', f + half, none⟩) half (c' - half)))
    have KO := Ho.mk ((KO.out.set 0 (.slice (some ⟨b, f + half, none⟩) half (c - half))).set 1 (.slice (some ⟨b', f + half, none⟩) half (c' - half)))
    simp only [List.set_cons_zero, List.set_cons_succ] at KO
    refine hK.out _ _ ⟨((hHeld.out.setCell (p := ⟨bO, 0, none⟩) (by dsimp only; omega) (.slice (some ⟨b, f + half, none⟩) half (c - half))).setCell (p := ⟨bO, 1, none⟩) (by dsimp only; omega) (.slice (some ⟨b', f + half, none⟩) half (c' - half)))⟩ (fun hHeld => ?_)
    clear hK K y0 x0 y1 x1
    have lt_bE : bE < (World.setCell (World.setCell wx ⟨bO, 0, none⟩ (.slice (some ⟨b, f + half, none⟩) half (c - half))) ⟨bO, 1, none⟩ (.slice (some ⟨b', f + half, none⟩) half (c' - half))).heap.size := by simpa [World.setCell] using lt_bE
    have lt_bO : bO < (World.setCell (World.setCell wx ⟨bO, 0, none⟩ (.slice (some ⟨b, f + half, none⟩) half (c - half))) ⟨bO, 1, none⟩ (.slice (some ⟨b', f + half, none⟩) half (c' - half))).heap.size := by simpa [World.setCell] using lt_bO
    generalize World.setCell (World.setCell wx ⟨bO, 0, none⟩ (.slice (some ⟨b, f + half, none⟩) half (c - half))) ⟨bO, 1, none⟩ (.slice (some ⟨b', f + half, none⟩) half (c' - half)) = wx at *
    try simp only [Act.put, List.setIfInBounds_toArray, List.set_cons_zero, List.set_cons_succ]
   |
    clear n13
    refine wpAnyH_done (by kernel_rfl) ?_ _
   |
    clear n12
    have y0 := KO.out.cell (i := 0) rfl
    have y1 := KO.out.cell (i := 1) rfl
    have x0 := KO.out.free 0
    have x1 := KO.out.free 1
    refine rc (i := 12) (fun K hK => have t12 := trivial; have n13 := trivial; ?_)
   |
    clear n11
    have y0 := KE.out.cell (i := 0) rfl
    have y1 := KE.out.cell (i := 1) rfl
    have x0 := KE.out.free 0
    have x1 := KE.out.free 1
    refine rc (i := 11) (fun K hK => have t11 := trivial; have n12 := trivial; ?_)
   |
    clear n8
    refine rc (i := 10) (fun K hK => have t10 := trivial; have n11 := trivial; ?_)
   |
    clear n9
    refine rc (i := 9) (fun K hK => have t9 := trivial; have n11 := trivial; ?_)
   |
    clear n10
    refine rc (i := 8) (fun K hK => have t8 := trivial; have n11 := trivial; ?_)
   |
    clear n4
    refine I6.rc2 (i := 9) (j := 10) (fun K hK => have t9 := trivial; have n8 := trivial; ?_) (fun K hK => have t10 := trivial; have n9 := trivial; ?_)
   |
    clear n5
    refine I6.rc2 (i := 8) (j := 10) (fun K hK => have t8 := trivial; have n8 := trivial; ?_) (fun K hK => have t10 := trivial; have n10 := trivial; ?_)
   |
    clear n6
    refine I6.rc2 (i := 8) (j := 9) (fun K hK => have t8 := trivial; have n9 := trivial; ?_) (fun K hK => have t9 := trivial; have n10 := trivial; ?_)
   |
    clear n7
    refine rc (i := 2) (fun K hK => have t2 := trivial; have n10 := trivial; ?_)
   |
    clear n1
    refine I8.rc3 (i := 8) (j := 9) (k := 10) (fun K hK => have t8 := trivial; have n4 := trivial; ?_) (fun K hK => have t9 := trivial; have n5 := trivial; ?_) (fun K hK => have t10 := trivial; have n6 := trivial; ?_)
   |
    clear n2
    refine I6.rc2 (i := 2) (j := 10) (fun K hK => have t2 := trivial; have n5 := trivial; ?_) (fun K hK => have t10 := trivial; have n7 := trivial; ?_)
   |
    clear n3
    refine I6.rc2 (i := 2) (j := 9) (fun K hK => have t2 := trivial; have n6 := trivial; ?_) (fun K hK => have t9 := trivial; have n7 := trivial; ?_)
   |
    clear n0
    refine rl (i := 0) (v := ?_) hHeld (fun w hSw => ?_) ?_
    rotate_left
    ·(have z0 := hSw.cell y0; have z1 := hSw.cell y1; go_simp; try (with_reducible rfl))
    refine rt (i := 1) hHeld ?_
    refine rl (i := 3) (v := ?_) hHeld (fun w hSw => ?_) ?_
    rotate_left
    ·(have z0 := hSw.cell y0; have z1 := hSw.cell y1; go_simp; try (with_reducible rfl))
    refine rt (i := 4) hHeld ?_
    refine rt (i := 5) hHeld ?_
    refine rl (i := 6) (v := ?_) hHeld (fun w hSw => ?_) ?_
    rotate_left
    ·(have z0 := hSw.cell y0; have z1 := hSw.cell y1; go_simp; try (with_reducible rfl))
    refine rt (i := 7) hHeld ?_
    try simp only [Act.put, List.setIfInBounds_toArray, List.set_cons_zero, List.set_cons_succ]
    refine I8.rc3 (i := 2) (j := 9) (k := 10) (fun K hK => have t2 := trivial; have n1 := trivial; ?_) (fun K hK => have t9 := trivial; have n2 := trivial; ?_) (fun K hK => have t10 := trivial; have n3 := trivial; ?_))
  all_goals
   go_wp2_with fail
   go_meet
   exact ⟨bE, bO, rfl, rfl, KE, KO, ⟨hHeld⟩, ⟨by first | exact ne_bE_bO | exact Ne.symm ne_bO_bE⟩, ⟨by omega⟩, ⟨by omega⟩⟩
 case rest =>
  obtain ⟨bE, bO, rfl, rfl, KE, KO, HB, HNE, LE, LO⟩ := hcut
  obtain ⟨wo, rfl⟩ : ∃ wo : World, wo = wc := ⟨_, rfl⟩
  have n1 : bE ≠ b := by have := LE.out; omega
  have n2 : bE ≠ b' := by have := LE.out; omega
  have n3 : bO ≠ b := by have := LO.out; omega
  have n4 : bO ≠ b' := by have := LO.out; omega
  have G0 := Ho.mk (g0.out.trans HB.out)
  have NE := Ho.mk (And.intro (And.intro n1 n2) (And.intro n3 n4))
  clear y0 y1 KV HB g0 PT1 PT2 n1 n2 n3 n4 HNE LE LO lb lb' hs
  go_wp2_with fail
  go_loopw [28] (fun v wr => ∃ (i : Nat), i ≤ half ∧ v = .int .i64 i ∧ Ho (Fz wr b (mergeS f half tw (X, Y) i).1) ∧ Ho (Fz wr b' (mergeS f half tw (X, Y) i).2) ∧ Ho (Gr2 b b' wo wr)) (fun v _ => half - (intOf v).toNat)
  case atStart => exact ⟨0, Nat.zero_le _, rfl, ⟨K1.out.bel G0.out⟩, ⟨K2.out.bel G0.out⟩, ⟨Gr2.refl _ _ _⟩⟩
  case round =>
   obtain ⟨i, hi, rfl, FX, FY, HG⟩ := hrel
   rcases Nat.lt_or_ge i half with hlt | hge
   ·have HL := Ho.mk (mergeS_len f half tw (X, Y) i)
    obtain ⟨st, hst⟩ : ∃ st, st = mergeS f half tw (X, Y) i := ⟨_, rfl⟩
    have HST := Ho.mk hst
    rw [← hst] at FX FY HL
    clear hst
    have hL1 : Ho (st.1.length = N) := ⟨HL.out.1.trans HX.out⟩
    have hL2 : Ho (st.2.length = N) := ⟨HL.out.2.trans HY.out⟩
    have KE1 := Ho.mk (HG.out.blk KE.out NE.out.1.1 NE.out.1.2)
    have KO1 := Ho.mk (HG.out.blk KO.out NE.out.2.1 NE.out.2.2)
    have e0 := KE1.out.cell (i := 0) rfl
    have e1 := KE1.out.cell (i := 1) rfl
    have o0 := KO1.out.cell (i := 0) rfl
    have o1 := KO1.out.cell (i := 1) rfl
    obtain ⟨r1, y1, r1l, r1c⟩ := FX.out.at_ (i := f + half + i) (by rw [hL1.out]; omega)
    obtain ⟨r2, y2, r2l, r2c⟩ := FY.out.at_ (i := f + half + i) (by rw [hL2.out]; omega)
    obtain ⟨r3, y3, r3l, r3c⟩ := FX.out.at_ (i := f + i) (by rw [hL1.out]; omega)
    obtain ⟨r4, y4, r4l, r4c⟩ := FY.out.at_ (i := f + i) (by rw [hL2.out]; omega)
    have H12 := Ho.mk (And.intro (And.intro r1l r1c) (And.intro r2l r2c))
    have H34 := Ho.mk (And.intro (And.intro r3l r3c) (And.intro r4l r4c))
    clear r1l r1c r2l r2c r3l r3c r4l r4c
    go_upto_region 6 with fail
    go_region
    go_upto_if 42 with fail
    go_cut [8, 9, 10, 11] from 42 to 56 (fun s8 s9 s10 s11 wy => ∃ (r s : Nat), s8 = .float .f64 r ∧ s9 = .float .f64 s ∧ Ho (r < 2 * sgnW ∧ s < 2 * sgnW) ∧ Ho (cn r = (tw1 opsN tw i (nthN st.1 (f + half + i)) (nthN st.2 (f + half + i))).1 ∧ cn s = (tw1 opsN tw i (nthN st.1 (f + half + i)) (nthN st.2 (f + half + i))).2) ∧ Ho (Bel wr wy))
    case first =>
     by_cases hi0 : i = 0
     ·subst hi0
      go_wp2_with fail
      go_meet
      exact ⟨r1, r2, rfl, rfl, ⟨H12.out.1.1, H12.out.2.1⟩, ⟨by rw [tw1, if_pos rfl]; exact H12.out.1.2, by rw [tw1, if_pos rfl]; exact H12.out.2.2⟩, ⟨(Bel.refl _).drew⟩⟩
     ·have hi1 : 0 < i := Nat.pos_of_ne_zero hi0
      have AI := Ho.mk (fun w (g : Bel wr w) => A0.out i hi1 hlt w ((gr2_bel G0.out b b').trans (HG.out.tb g)))
      go_wp2_with (go_at_call 103; (with_reducible refine (AI.out _ (Bel.refl _).drew).mono ?_); rintro e w7 ⟨r7, s7, rfl, l7, c7, b7⟩; have H7 := Ho.mk (And.intro l7 c7); clear l7 c7)
      have TU := Ho.mk (fun w => P2.dCTurn w H12.out.1.1 H12.out.2.1 H7.out.1.1 H7.out.1.2)
      go_wp2_with (go_at_call 86; (with_reducible refine (TU.out _).mono ?_); rintro e w8 ⟨r8, s8, rfl, l8, c8, b8⟩; have H8 := Ho.mk (And.intro l8 c8); clear l8 c8)
      go_meet
      exact ⟨r8, s8, rfl, rfl, ⟨H8.out.1.1, H8.out.1.2⟩, ⟨by rw [tw1, if_neg hi0, H8.out.2.1, H12.out.1.2, H12.out.2.2, H7.out.2.1, H7.out.2.2]; rfl, by rw [tw1, if_neg hi0, H8.out.2.2, H12.out.1.2, H12.out.2.2, H7.out.2.1, H7.out.2.2]; rfl⟩, ⟨((Bel.refl _).drew.trans b7).trans b8⟩⟩
    case rest =>
     obtain ⟨r, s, rfl, rfl, HR, HC, HB⟩ := hcut
     have KE2 := Ho.mk ((KE1.out.bel HB.out).bel (Bel.refl _).drew)
     have KO2 := Ho.mk ((KO1.out.bel HB.out).bel (Bel.refl _).drew)
     have FX := Ho.mk ((FX.out.bel HB.out).bel (Bel.refl _).drew)
     have FY := Ho.mk ((FY.out.bel HB.out).bel (Bel.refl _).drew)
     have GR := Ho.mk ((HG.out.tb HB.out).drew)
     have LX := hL1
     have LY := hL2
     have AD := Ho.mk (fun w => P2.dCAdd w H34.out.1.1 H34.out.2.1 HR.out.1 HR.out.2)
     have SU := Ho.mk (fun w => P2.dCSub w H34.out.1.1 H34.out.2.1 HR.out.1 HR.out.2)
     have e0 := HB.out.cell e0
     have e1 := HB.out.cell e1
     have y3 := HB.out.cell y3
     have y4 := HB.out.cell y4
     clear o0 o1 y1 y2 KE1 KO1 HB HG hL1 hL2
     go_upto_region 10 with fail
     go_region
     go_upto_region 11 with fail
     clear e0 e1 y3 y4
     generalize wc.drew = wz at *
     refine wp_region_held_drew (S := fun w' => Blk w' bE 24 [.slice (some ⟨b, f, none⟩) half c, .slice (some ⟨b', f, none⟩) half c']) (by kernel_rfl) (KE2.out.bel (Bel.refl _).drew) (fun hHeld => ?_)
     (try dsimp only at hHeld)
     refine rt (i := 0) hHeld ?_
     refine rl (i := 1) (v := ?_) hHeld (fun w hSw => ?_) ?_
     rotate_left
     ·(have z0 := hSw.cell (i := 0) rfl; have z1 := hSw.cell (i := 1) rfl; go_simp; try (with_reducible rfl))
     refine rt (i := 2) hHeld ?_
     refine rt (i := 3) hHeld ?_
     refine rl (i := 4) (v := ?_) hHeld (fun w hSw => ?_) ?_
     rotate_left
     ·(have z0 := hSw.cell (i := 0) rfl; have z1 := hSw.cell (i := 1) rfl; go_simp; try (with_reducible rfl))
     refine rt (i := 5) hHeld ?_
     refine rt (i := 6) hHeld ?_
     refine rt (i := 7) hHeld ?_
     refine rt (i := 8) hHeld ?_
     refine rt (i := 9) hHeld ?_
     try simp only [Act.put, List.setIfInBounds_toArray, List.set_cons_zero, List.set_cons_succ]
     refine rc (i := 10) (fun K hK => ?_)
     go_simp
     go_at_call 81
     (with_reducible refine (AD.out _).mono ?_); rintro e wqa ⟨ra, sa, rfl, la, ca, bqa⟩
     try go_wp2_with fail
     refine hK.out _ _ (Blk.bel hHeld bqa) (fun hHeld => ?_)
     clear hK K
     refine rt (i := 11) hHeld ?_
     refine rt (i := 12) hHeld ?_
     refine rt (i := 13) hHeld ?_
     refine rt (i := 14) hHeld ?_
     have FX := Ho.mk (FX.out.bel ((Bel.refl wz).drew.trans bqa))
     have FY := Ho.mk (FY.out.bel ((Bel.refl wz).drew.trans bqa))
     have GR := Ho.mk (GR.out.tb ((Bel.refl wz).drew.trans bqa))
     obtain ⟨_, p1, _, _⟩ := FX.out.at_ (i := f + i) (by rw [LX.out]; omega)
     have p2 := FX.out.free (f + i)
     try simp only [Act.put, List.setIfInBounds_toArray, List.set_cons_zero, List.set_cons_succ]
     refine rc (i := 15) (fun K hK => ?_)
     go_simp
     refine hK.out _ _ (Blk.far hHeld (p := ⟨b, f + i, none⟩) (by dsimp only; exact NE.out.1.1) _) (fun hHeld => ?_)
     clear hK K
     have FX := Ho.mk (FX.out.set (f + i) la.1 ca.1)
     have FY := Ho.mk (FY.out.far (p := ⟨b, f + i, none⟩) (by dsimp only; exact Ne.symm hb) (.float .f64 ra))
     have GR := Ho.mk (GR.out.set (p := ⟨b, f + i, none⟩) (.inl rfl) (.float .f64 ra))
     clear p1 p2
     generalize World.setCell wqa ⟨b, f + i, none⟩ (.float .f64 ra) = wra at *
     refine rt (i := 16) hHeld ?_
     obtain ⟨_, p1, _, _⟩ := FY.out.at_ (i := f + i) (by rw [LY.out]; omega)
     have p2 := FY.out.free (f + i)
     try simp only [Act.put, List.setIfInBounds_toArray, List.set_cons_zero, List.set_cons_succ]
     refine rc (i := 17) (fun K hK => ?_)
     go_simp
     refine hK.out _ _ (Blk.far hHeld (p := ⟨b', f + i, none⟩) (by dsimp only; exact NE.out.1.2) _) (fun hHeld => ?_)
     clear hK K
     have FY := Ho.mk (FY.out.set (f + i) la.2 ca.2)
     have FX := Ho.mk (FX.out.far (p := ⟨b', f + i, none⟩) (by dsimp only; exact hb) (.float .f64 sa))
     have GR := Ho.mk (GR.out.set (p := ⟨b', f + i, none⟩) (.inr rfl) (.float .f64 sa))
     clear p1 p2
     generalize World.setCell wra ⟨b', f + i, none⟩ (.float .f64 sa) = wsa at *
     try simp only [Act.put, List.setIfInBounds_toArray, List.set_cons_zero, List.set_cons_succ]
     refine wpAnyH_done (by kernel_rfl) ?_ _
     have LX : Ho ((st.1.set (f + i) (fadd (cn r3) (cn r))).length = N) := ⟨by rw [List.length_set]; exact LX.out⟩
     have LY : Ho ((st.2.set (f + i) (fadd (cn r4) (cn s))).length = N) := ⟨by rw [List.length_set]; exact LY.out⟩
     go_upto_region 12 with fail
     have KO2 := Ho.mk (GR.out.blk KO.out NE.out.2.1 NE.out.2.2)
     clear hHeld
     refine wp_region_held_drew (S := fun w' => Blk w' bO 24 [.slice (some ⟨b, f + half, none⟩) half (c - half), .slice (some ⟨b', f + half, none⟩) half (c' - half)]) (by kernel_rfl) (KO2.out.bel (Bel.refl _).drew) (fun hHeld => ?_)
     (try dsimp only at hHeld)
     refine rt (i := 0) hHeld ?_
     refine rl (i := 1) (v := ?_) hHeld (fun w hSw => ?_) ?_
     rotate_left
     ·(have z0 := hSw.cell (i := 0) rfl; have z1 := hSw.cell (i := 1) rfl; go_simp; try (with_reducible rfl))
     refine rt (i := 2) hHeld ?_
     refine rt (i := 3) hHeld ?_
     refine rl (i := 4) (v := ?_) hHeld (fun w hSw => ?_) ?_
     rotate_left
     ·(have z0 := hSw.cell (i := 0) rfl; have z1 := hSw.cell (i := 1) rfl; go_simp; try (with_reducible rfl))
     refine rt (i := 5) hHeld ?_
     refine rt (i := 6) hHeld ?_
     refine rt (i := 7) hHeld ?_
     refine rt (i := 8) hHeld ?_
     refine rt (i := 9) hHeld ?_
     try simp only [Act.put, List.setIfInBounds_toArray, List.set_cons_zero, List.set_cons_succ]
     refine rc (i := 10) (fun K hK => ?_)
     go_simp
     go_at_call 82
     (with_reducible refine (SU.out _).mono ?_); rintro e wqb ⟨rb, sb, rfl, lb, cb, bqb⟩
     try go_wp2_with fail
     refine hK.out _ _ (Blk.bel hHeld bqb) (fun hHeld => ?_)
     clear hK K
     refine rt (i := 11) hHeld ?_
     refine rt (i := 12) hHeld ?_
     refine rt (i := 13) hHeld ?_
     refine rt (i := 14) hHeld ?_
     have FX := Ho.mk (FX.out.bel ((Bel.refl wsa).drew.trans bqb))
     have FY := Ho.mk (FY.out.bel ((Bel.refl wsa).drew.trans bqb))
     have GR := Ho.mk (GR.out.tb ((Bel.refl wsa).drew.trans bqb))
     obtain ⟨_, p1, _, _⟩ := FX.out.at_ (i := f + half + i) (by rw [LX.out]; omega)
     have p2 := FX.out.free (f + half + i)
     try simp only [Act.put, List.setIfInBounds_toArray, List.set_cons_zero, List.set_cons_succ]
     refine rc (i := 15) (fun K hK => ?_)
     go_simp
     refine hK.out _ _ (Blk.far hHeld (p := ⟨b, f + half + i, none⟩) (by dsimp only; exact NE.out.2.1) _) (fun hHeld => ?_)
     clear hK K
     have FX := Ho.mk (FX.out.set (f + half + i) lb.1 cb.1)
     have FY := Ho.mk (FY.out.far (p := ⟨b, f + half + i, none⟩) (by dsimp only; exact Ne.symm hb) (.float .f64 rb))
     have GR := Ho.mk (GR.out.set (p := ⟨b, f + half + i, none⟩) (.inl rfl) (.float .f64 rb))
     clear p1 p2
     generalize World.setCell wqb ⟨b, f + half + i, none⟩ (.float .f64 rb) = wrb at *
     refine rt (i := 16) hHeld ?_
     obtain ⟨_, p1, _, _⟩ := FY.out.at_ (i := f + half + i) (by rw [LY.out]; omega)
     have p2 := FY.out.free (f + half + i)
     try simp only [Act.put, List.setIfInBounds_toArray, List.set_cons_zero, List.set_cons_succ]
     refine rc (i := 17) (fun K hK => ?_)
     go_simp
     refine hK.out _ _ (Blk.far hHeld (p := ⟨b', f + half + i, none⟩) (by dsimp only; exact NE.out.2.2) _) (fun hHeld => ?_)
     clear hK K
     have FY := Ho.mk (FY.out.set (f + half + i) lb.2 cb.2)
     have FX := Ho.mk (FX.out.far (p := ⟨b', f + half + i, none⟩) (by dsimp only; exact hb) (.float .f64 sb))
     have GR := Ho.mk (GR.out.set (p := ⟨b', f + half + i, none⟩) (.inr rfl) (.float .f64 sb))
     clear p1 p2
     generalize World.setCell wrb ⟨b', f + half + i, none⟩ (.float .f64 sb) = wsb at *
     try simp only [Act.put, List.setIfInBounds_toArray, List.set_cons_zero, List.set_cons_succ]
     refine wpAnyH_done (by kernel_rfl) ?_ _
     clear hHeld
     go_wp2_with fail
     go_roundw
     case rel =>
      have e : mergeS f half tw (X, Y) (i + 1) = ((st.1.set (f + i) (fadd (cn r3) (cn r))).set (f + half + i) (fsub (cn r3) (cn r)), (st.2.set (f + i) (fadd (cn r4) (cn s))).set (f + half + i) (fsub (cn r4) (cn s))) := by
       rw [mergeS_succ, ← HST.out, H34.out.1.2, H34.out.2.2, HC.out.1, HC.out.2]; rfl
      refine ⟨i + 1, by omega, by simp, ⟨?_⟩, ⟨?_⟩, GR⟩
      ·rw [e]; exact FX.out
      ·rw [e]; exact FY.out
     case measure => simp [intOf]; omega
   ·obtain rfl : i = half := by omega
    go_wp2
    go_end0
    exact ⟨rfl, FX.out, FY.out, (gr2_bel G0.out b b').trans HG.out⟩
end P7
namespace P8
open Ieee Go Go.RowKit Go.Proofs Go.Proofs.YtnbdoidccacdnaaGreatDoor Ow Pl Dp Dt Gp F1 I0 U0 W0 S4 S6 P0 P1 P2 M0 M1 M2 M3 P3 P4 P5 P6 P7 W4
attribute [local go_sem ↓] Go.wp_at_zero Go.wp_at_succ
theorem tab_ne {w : World} {b : Nat} {X : List Nat} (T : Tab w) (h : Fz w b X) (hl : 0 < X.length) : 2 ≠ b := by
 rintro rfl
 have h1 := T.cell 0 (by decide)
 obtain ⟨r, h2, _⟩ := h.at_ hl
 rw [h1] at h2; cases h2
theorem logI_pow {p : Nat} (hp : p ≤ 10) : logI (2 ^ p) = p := by
 have : ∀ p : Fin 11, logI (2 ^ p.val) = (p.val : Int) := by decide
 exact this ⟨p, by omega⟩
def qOf (v : Value) (w : World) : Nat := match v with
 | .pointer (some a) => match w.cell? a with
  | some (.int _ n) => n.toNat
  | _ => 0
 | _ => 0
theorem qOf_blk {w : World} {b : Nat} {t : TypeId} {n : Int} (h : Blk w b t [.int .i64 n]) : qOf (.pointer (some ⟨b, 0, none⟩)) w = n.toNat := by
 unfold qOf; simp only [h.cell (i := 0) rfl]
def stageS (p : Nat) (tab : Nat → Nat × Nat) (st : List Nat × List Nat) (k : Nat) : List Nat × List Nat := loopN (fun q st => stageG opsN (2 ^ q) (2 ^ (p - (q + 1))) (fun k => tab (k * 2 ^ (p - (q + 1)))) st) k st
theorem stageS_len {p : Nat} (tab : Nat → Nat × Nat) {st : List Nat × List Nat} (h1 : st.1.length = 2 ^ p) (h2 : st.2.length = 2 ^ p) {k : Nat} (hk : k ≤ p) : (stageS p tab st k).1.length = 2 ^ p ∧ (stageS p tab st k).2.length = 2 ^ p :=
 stages_len opsN (fun q k => tab (k * 2 ^ (p - (q + 1)))) h1 h2 hk
theorem stageS_succ (p : Nat) (tab : Nat → Nat × Nat) (st : List Nat × List Nat) (k : Nat) : stageS p tab st (k + 1) = stageG opsN (2 ^ k) (2 ^ (p - (k + 1))) (fun j => tab (j * 2 ^ (p - (k + 1)))) (stageS p tab st k) := rfl
theorem _root_.Go.Proofs.YtnbdoidccacdnaaGreatDoor.W4.Gr2.fk {b c : Nat} {w w' : World} (h : Gr2 b c w w') {b' : Nat} {X : List Nat} (k : Fk w b' X) (n1 : b' ≠ b) (n2 : b' ≠ c) : Fk w' b' X := by
 obtain ⟨cs, h1, h2⟩ := k.out; exact ⟨cs, h.blk h1 n1 n2, h2⟩
theorem nth_range {m k : Nat} (f : Nat → Nat) (h : k < m) : nthN ((List.range m).map f) k = f k := nthG_map opsN f h
def mergesS (half : Nat) (tw : Nat → Nat × Nat) (st : List Nat × List Nat) (j : Nat) : List Nat × List Nat := loopN (fun i st => mergeG opsN (i * (2 * half)) half tw st) j st
theorem mergesS_len {half : Nat} {tw : Nat → Nat × Nat} {st : List Nat × List Nat} (j : Nat) : (mergesS half tw st j).1.length = st.1.length ∧ (mergesS half tw st j).2.length = st.2.length := by
 refine loopN_inv (I := fun _ (s : List Nat × List Nat) => s.1.length = st.1.length ∧ s.2.length = st.2.length) j ⟨rfl, rfl⟩ ?_
 intro k s _ h
 have := mergeS_len (k * (2 * half)) half tw s half
 exact ⟨this.1.trans h.1, this.2.trans h.2⟩
theorem mergesS_succ (half : Nat) (tw : Nat → Nat × Nat) (st : List Nat × List Nat) (j : Nat) : mergesS half tw st (j + 1) = mergeG opsN (j * (2 * half)) half tw (mergesS half tw st j) := rfl
theorem swapG_len (od X : List Nat) : (swapG opsN od X).length = X.length := swapK_len od X od.length
theorem dInto {p N c c' b b' : Nat} {X Y : List Nat} (W0 : World) (T : Tab W0) (KX : Fz W0 b X) (KY : Fz W0 b' Y) (hb : b ≠ b') (hN : N = 2 ^ p) (hX : X.length = N) (hY : Y.length = N) (hp7 : p ≤ 7) (hc : N ≤ c) (hc' : N ≤ c') (hC : c ≤ 9223372036854775807) (hC' : c' ≤ 9223372036854775807) :
  Calls Tryz.prog 55 #[.agg #[.slice (some ⟨b, 0, none⟩) N c, .slice (some ⟨b', 0, none⟩) N c']] W0
   fun e w' => e = .returned (.int .i64 0) ∧ Fz w' b (intoG opsN (bitsG p) p (tabW p) (X, Y)).1 ∧ Fz w' b' (intoG opsN (bitsG p) p (tabW p) (X, Y)).2 ∧ Gr2 b b' W0 w' := by
 have hpos : 0 < N := by rw [hN]; exact Nat.two_pow_pos p
 have h128 : N ≤ 128 := by rw [hN]; exact Nat.le_trans (Nat.pow_le_pow_right (by decide) hp7) (by decide)
 have b2 := tab_ne T KX (by omega)
 have b2' := tab_ne T KY (by omega)
 have lp : logI N = p := by rw [hN]; exact logI_pow (by omega)
 have RI : Ho (∀ w, Bel W0 w → Calls Tryz.prog 99 #[.agg #[.slice (some ⟨b, 0, none⟩) N c, .slice (some ⟨b', 0, none⟩) N c']] w (fun e w' => e = .returned (.bool true) ∧ Bel w w')) := ⟨fun w g => by
  have h := dRightV (n := N) (m := N) (c := c) (c' := c') (A := some ⟨b, 0, none⟩) (B := some ⟨b', 0, none⟩) w (T.bel g) (by omega) (by omega)
  rw [lp, show decide (N = N ∧ (0 : Int) ≤ (p : Int)) = true from by simp] at h; exact h⟩
 have LG : Ho (∀ w, Bel W0 w → Calls Tryz.prog 100 #[.int .i64 (N : Int)] w fun e w' => e = .returned (.int .i64 (p : Int)) ∧ w = w') := ⟨fun w g => by
  have h := dLog (n := N) (fn := 100) rfl w (by omega) (T.bel g)
  rw [lp] at h; exact h⟩
 have BI : Ho (∀ w, Calls Tryz.prog 101 #[.int .i64 (p : Int)] w fun e w' => ∃ b, e = .returned (.slice (some ⟨b, 0, none⟩) N N) ∧ Blk w' b 3 (insN (bitsG p)) ∧ w.heap.size ≤ b ∧ Bel w w') := ⟨fun w => by
  have h := dBits (p := p) w rfl hp7
  rw [← hN] at h; exact h⟩
 have TT := Ho.mk T
 have K1 := Ho.mk KX
 have K2 := Ho.mk KY
 have HX := Ho.mk hX
 have HY := Ho.mk hY
 have lb := KX.lt
 have lb' := KY.lt
 have IV := Ho.mk (inv_bits hp7)
 have KV := Ho.mk (Blk.new W0 [.slice (some ⟨b, 0, none⟩) N c, .slice (some ⟨b', 0, none⟩) N c'] 24)
 have g0 := Ho.mk ((Bel.refl W0).alloc (.cells #[.slice (some ⟨b, 0, none⟩) N c, .slice (some ⟨b', 0, none⟩) N c'] 24))
 have HN := Ho.mk hN
 rw [← hN] at IV
 clear KX KY T hX hY lp hN
 go_enter Tryz.func55, Tryz.ntmps55
 go_upto_region 1 with fail
 have hs := Ho.mk (show (W0.alloc (.cells #[.slice (some ⟨b, 0, none⟩) N c, .slice (some ⟨b', 0, none⟩) N c'] 24)).heap.size = W0.heap.size + 1 from World.size_alloc _ _)
 generalize W0.alloc (.cells #[.slice (some ⟨b, 0, none⟩) N c, .slice (some ⟨b', 0, none⟩) N c'] 24) = W at *
 have y0 := KV.out.cell (i := 0) rfl
 have y1 := KV.out.cell (i := 1) rfl
 go_wp2_with fail
 (with_reducible refine (RI.out _ g0.out).mono ?_); rintro e w1 ⟨rfl, b1⟩
 have KV := Ho.mk (KV.out.bel b1)
 have g1 := Ho.mk (g0.out.trans b1)
 have l1 : W0.heap.size < w1.heap.size := by have := b1.size; have := hs.out; omega
 clear y0 y1 b1 hs g0 RI
 have y0 := KV.out.cell (i := 0) rfl
 have y1 := KV.out.cell (i := 1) rfl
 go_wp2_with fail
 (with_reducible refine (LG.out _ g1.out).mono ?_); rintro e w1 ⟨rfl, rfl⟩
 go_upto_region 4 with fail
 have KP := Ho.mk (Blk.new w1 [.int .i64 (p : Int)] 3)
 have KV := Ho.mk (KV.out.old (.cells #[.int .i64 (p : Int)] 3))
 have g2 := Ho.mk (g1.out.alloc (.cells #[.int .i64 (p : Int)] 3))
 have l2 : w1.heap.size < (w1.alloc (.cells #[.int .i64 (p : Int)] 3)).heap.size := by rw [World.size_alloc]; exact Nat.lt_succ_self _
 clear y0 y1 g1 LG
 obtain ⟨bp, hbp⟩ : ∃ bp, bp = w1.heap.size := ⟨_, rfl⟩
 rw [← hbp] at KP l2 l1 ⊢
 clear hbp
 generalize w1.alloc (.cells #[.int .i64 (p : Int)] 3) = W2 at *
 have y2 := KP.out.cell (i := 0) rfl
 go_wp2_with fail
 (with_reducible refine (BI.out _).mono ?_); rintro e w3 ⟨bo, rfl, KO, l3, b3⟩
 have KV := Ho.mk (KV.out.bel b3)
 have KP := Ho.mk (KP.out.bel b3)
 have g3 := Ho.mk (g2.out.trans b3)
 have l4 : bp < bo := Nat.lt_of_lt_of_le l2 l3
 have KO := Ho.mk KO
 clear y2 b3 l3 l2 g2 BI
 have y0 := KV.out.cell (i := 0) rfl
 have SW1 := Ho.mk (dSwap (c := c) (co := N) (N := N) w3 (K1.out.bel g3.out) KO.out HX.out IV.out.len IV.out.lt (by omega) (by omega))
 go_wp2_with fail
 (with_reducible refine SW1.out.mono ?_); rintro e w4 ⟨rfl, f4, G4⟩
 have KV := Ho.mk (G4.blk KV.out (by omega))
 have KP := Ho.mk (G4.blk KP.out (by omega))
 have KO := Ho.mk (G4.blk KO.out (by omega))
 have F2 := Ho.mk (gr_fz G4 (K2.out.bel g3.out) (Ne.symm hb))
 have F1 := Ho.mk f4
 have G4 := Ho.mk ((gr2_bel g3.out b b').trans (Gr2.of1 G4))
 clear y0 f4 g3 SW1
 have y1 := KV.out.cell (i := 1) rfl
 have SW2 := Ho.mk (dSwap (c := c') (co := N) (N := N) w4 F2.out KO.out HY.out IV.out.len IV.out.lt (by omega) (by omega))
 go_wp2_with fail
 (with_reducible refine SW2.out.mono ?_); rintro e w5 ⟨rfl, f5, G5⟩
 have KV := Ho.mk (G5.blk KV.out (by omega))
 have KP := Ho.mk (G5.blk KP.out (by omega))
 have F1 := Ho.mk (gr_fz G5 F1.out hb)
 have F2 := Ho.mk f5
 have G5 := Ho.mk (G4.out.trans (Gr2.of2 G5))
 clear y1 f5 G4 SW2 KO
 go_upto_region 7 with fail
 have y2 := KP.out.cell (i := 0) rfl
 have hmi : IntKind.i64.wrap ((IntKind.i64.wrap (2 ^ p)).tdiv 2) = ((N / 2 : Nat) : Int) := by
  have e : ((2 : Int) ^ p) = ((N : Nat) : Int) := by rw [HN.out]; push_cast; rfl
  rw [e, show IntKind.i64.wrap (N : Int) = (N : Int) from by rw [IntKind.wrap_i64]; omega, Int.tdiv_eq_ediv_of_nonneg (by omega), IntKind.wrap_i64]; omega
 have l5 := G5.out.size
 have TB := Ho.mk (fun w (g : Bel w5 w) => dTable (q := p) (m := N / 2) w ((G5.out.tab TT.out b2 b2').bel g) rfl (by omega) hmi (by omega))
 clear hmi
 go_cut [5] from 26 to 30 (fun s5 wy => ∃ (bW bC bS : Nat), s5 = .pointer (some ⟨bW, 0, none⟩) ∧ Ho (Blk wy bW 24 [.slice (some ⟨bC, 0, none⟩) (N / 2) (N / 2), .slice (some ⟨bS, 0, none⟩) (N / 2) (N / 2)]) ∧ Ho (Fk wy bC ((List.range (N / 2)).map fun k => (tabW p k).1)) ∧ Ho (Fk wy bS ((List.range (N / 2)).map fun k => (tabW p k).2)) ∧ Ho (Bel w5 wy) ∧ Ho (W0.heap.size ≤ bW) ∧ Ho (W0.heap.size ≤ bC) ∧ Ho (W0.heap.size ≤ bS))
 case first =>
  refine wp_region_held_drew (S := fun w' => Bel w5 w') (by kernel_rfl) (Bel.refl _).drew (fun hHeld => ?_)
  (try dsimp only at hHeld)
  generalize w5.drew = wd at *
  refine rl (i := 0) (v := ?_) hHeld (fun w hSw => ?_) ?_
  rotate_left
  ·(have z0 := hSw.cell y2; go_simp; try (with_reducible rfl))
  refine rl (i := 1) (v := ?_) hHeld (fun w hSw => ?_) ?_
  rotate_left
  ·(have z0 := hSw.cell y2; go_simp; try (with_reducible rfl))
  refine rt (i := 2) hHeld ?_
  refine rt (i := 3) hHeld ?_
  try simp only [Act.put, List.setIfInBounds_toArray, List.set_cons_zero, List.set_cons_succ]
  refine I6.rc2 (i := 4) (j := 5) (fun K hK => ?_) (fun K hK => ?_)
  ·go_simp
   go_at_call 83
   (with_reducible refine (TB.out _ hHeld).mono ?_); rintro e v1 ⟨bC, bS, rfl, fC, fS, lC, lS, bv1⟩
   have FC := Ho.mk fC
   have FS := Ho.mk fS
   have lt_bC := fC.lt
   have lt_bS := fS.lt
   have lwC := hHeld.size
   clear fC fS
   try go_wp2_with fail
   refine hK.out _ _ (Bel.trans hHeld bv1) (fun hHeld => ?_)
   clear hK K
   clear bv1
   try simp only [Act.put, List.setIfInBounds_toArray, List.set_cons_zero, List.set_cons_succ]
   refine rc (i := 5) (fun K hK => ?_)
   go_simp
   have le_bW := hHeld.size
   refine hK.out _ _ (Bel.alloc hHeld _) (fun hHeld => ?_)
   clear hK K
   have KW := Ho.mk (Blk.new v1 [.slice none 0 0, .slice none 0 0] 24)
   have FC := Ho.mk (FC.out.bel ((Bel.refl v1).alloc (.cells #[.slice none 0 0, .slice none 0 0] 24)))
   have FS := Ho.mk (FS.out.bel ((Bel.refl v1).alloc (.cells #[.slice none 0 0, .slice none 0 0] 24)))
   have lt_bC := Nat.lt_of_lt_of_le lt_bC ((Bel.refl v1).alloc (.cells #[.slice none 0 0, .slice none 0 0] 24)).size
   have lt_bS := Nat.lt_of_lt_of_le lt_bS ((Bel.refl v1).alloc (.cells #[.slice none 0 0, .slice none 0 0] 24)).size
   have lt_bW : v1.heap.size < (World.alloc v1 (.cells #[.slice none 0 0, .slice none 0 0] 24)).heap.size := by rw [World.size_alloc]; exact Nat.lt_succ_self _
   obtain ⟨bW, hp_bW⟩ : ∃ p, p = v1.heap.size := ⟨_, rfl⟩
   rw [← hp_bW] at KW le_bW lt_bW
   rw [← hp_bW]
   have ne_bC_bW : bC ≠ bW := by omega
   have en_bC_bW : bW ≠ bC := by omega
   have ne_bS_bW : bS ≠ bW := by omega
   have en_bS_bW : bW ≠ bS := by omega
   clear hp_bW
   generalize World.alloc v1 (.cells #[.slice none 0 0, .slice none 0 0] 24) = v2 at *
   try simp only [Act.put, List.setIfInBounds_toArray, List.set_cons_zero, List.set_cons_succ]
   have y0 := KW.out.cell (i := 0) rfl
   have y1 := KW.out.cell (i := 1) rfl
   have x0 := KW.out.free 0
   have x1 := KW.out.free 1
   refine rc (i := 6) (fun K hK => ?_)
   go_simp
   have FC := Ho.mk ((FC.out.far (p := ⟨bW, 0, none⟩) (by dsimp only; omega) (.slice (some ⟨bC, 0, none⟩) (N / 2) (N / 2))).far (p := ⟨bW, 1, none⟩) (by dsimp only; omega) (.slice (some ⟨bS, 0, none⟩) (N / 2) (N / 2)))
   have FS := Ho.mk ((FS.out.far (p := ⟨bW, 0, none⟩) (by dsimp only; omega) (.slice (some ⟨bC, 0, none⟩) (N / 2) (N / 2))).far (p := ⟨bW, 1, none⟩) (by dsimp only; omega) (.slice (some ⟨bS, 0, none⟩) (N / 2) (N / 2)))
   have KW := Ho.mk ((KW.out.set 0 (.slice (some ⟨bC, 0, none⟩) (N / 2) (N / 2))).set 1 (.slice (some ⟨bS, 0, none⟩) (N / 2) (N / 2)))
   simp only [List.set_cons_zero, List.set_cons_succ] at KW
   refine hK.out _ _ ⟨((hHeld.out.setCell (p := ⟨bW, 0, none⟩) (by dsimp only; omega) (.slice (some ⟨bC, 0, none⟩) (N / 2) (N / 2))).setCell (p := ⟨bW, 1, none⟩) (by dsimp only; omega) (.slice (some ⟨bS, 0, none⟩) (N / 2) (N / 2)))⟩ (fun hHeld => ?_)
   clear hK K y0 x0 y1 x1
   generalize World.setCell (World.setCell v2 ⟨bW, 0, none⟩ (.slice (some ⟨bC, 0, none⟩) (N / 2) (N / 2))) ⟨bW, 1, none⟩ (.slice (some ⟨bS, 0, none⟩) (N / 2) (N / 2)) = v3 at *
   try simp only [Act.put, List.setIfInBounds_toArray, List.set_cons_zero, List.set_cons_succ]
   refine wpAnyH_done (by kernel_rfl) ?_ _
   go_wp2_with fail
   go_meet
   exact ⟨bW, bC, bS, rfl, KW, FC, FS, ⟨hHeld⟩, ⟨by omega⟩, ⟨by omega⟩, ⟨by omega⟩⟩
  ·go_simp
   have le_bW := hHeld.size
   refine hK.out _ _ (Bel.alloc hHeld _) (fun hHeld => ?_)
   clear hK K
   have KW := Ho.mk (Blk.new wd [.slice none 0 0, .slice none 0 0] 24)
   have lt_bW : wd.heap.size < (World.alloc wd (.cells #[.slice none 0 0, .slice none 0 0] 24)).heap.size := by rw [World.size_alloc]; exact Nat.lt_succ_self _
   obtain ⟨bW, hp_bW⟩ : ∃ p, p = wd.heap.size := ⟨_, rfl⟩
   rw [← hp_bW] at KW le_bW lt_bW
   rw [← hp_bW]
   clear hp_bW
   generalize World.alloc wd (.cells #[.slice none 0 0, .slice none 0 0] 24) = v4 at *
   try simp only [Act.put, List.setIfInBounds_toArray, List.set_cons_zero, List.set_cons_succ]
   refine rc (i := 4) (fun K hK => ?_)
   go_simp
   go_at_call 83
   (with_reducible refine (TB.out _ hHeld).mono ?_); rintro e v5 ⟨bC, bS, rfl, fC, fS, lC, lS, bv5⟩
   have FC := Ho.mk fC
   have FS := Ho.mk fS
   have lt_bC := fC.lt
   have lt_bS := fS.lt
   have lwC := hHeld.size
   clear fC fS
   try go_wp2_with fail
   refine hK.out _ _ (Bel.trans hHeld bv5) (fun hHeld => ?_)
   clear hK K
   have KW := Ho.mk (KW.out.bel bv5)
   have lt_bW := Nat.lt_of_lt_of_le lt_bW bv5.size
   clear bv5
   try simp only [Act.put, List.setIfInBounds_toArray, List.set_cons_zero, List.set_cons_succ]
   have y0 := KW.out.cell (i := 0) rfl
   have y1 := KW.out.cell (i := 1) rfl
   have x0 := KW.out.free 0
   have x1 := KW.out.free 1
   refine rc (i := 6) (fun K hK => ?_)
   go_simp
   have FC := Ho.mk ((FC.out.far (p := ⟨bW, 0, none⟩) (by dsimp only; omega) (.slice (some ⟨bC, 0, none⟩) (N / 2) (N / 2))).far (p := ⟨bW, 1, none⟩) (by dsimp only; omega) (.slice (some ⟨bS, 0, none⟩) (N / 2) (N / 2)))
   have FS := Ho.mk ((FS.out.far (p := ⟨bW, 0, none⟩) (by dsimp only; omega) (.slice (some ⟨bC, 0, none⟩) (N / 2) (N / 2))).far (p := ⟨bW, 1, none⟩) (by dsimp only; omega) (.slice (some ⟨bS, 0, none⟩) (N / 2) (N / 2)))
   have KW := Ho.mk ((KW.out.set 0 (.slice (some ⟨bC, 0, none⟩) (N / 2) (N / 2))).set 1 (.slice (some ⟨bS, 0, none⟩) (N / 2) (N / 2)))
   simp only [List.set_cons_zero, List.set_cons_succ] at KW
   refine hK.out _ _ ⟨((hHeld.out.setCell (p := ⟨bW, 0, none⟩) (by dsimp only; omega) (.slice (some ⟨bC, 0, none⟩) (N / 2) (N / 2))).setCell (p := ⟨bW, 1, none⟩) (by dsimp only; omega) (.slice (some ⟨bS, 0, none⟩) (N / 2) (N / 2)))⟩ (fun hHeld => ?_)
   clear hK K y0 x0 y1 x1
   generalize World.setCell (World.setCell v5 ⟨bW, 0, none⟩ (.slice (some ⟨bC, 0, none⟩) (N / 2) (N / 2))) ⟨bW, 1, none⟩ (.slice (some ⟨bS, 0, none⟩) (N / 2) (N / 2)) = v6 at *
   try simp only [Act.put, List.setIfInBounds_toArray, List.set_cons_zero, List.set_cons_succ]
   refine wpAnyH_done (by kernel_rfl) ?_ _
   go_wp2_with fail
   go_meet
   exact ⟨bW, bC, bS, rfl, KW, FC, FS, ⟨hHeld⟩, ⟨by omega⟩, ⟨by omega⟩, ⟨by omega⟩⟩
 case rest =>
  obtain ⟨bW, bC, bS, rfl, KW, FC, FS, HB, LW, LC, LS⟩ := hcut
  have KV := Ho.mk (KV.out.bel HB.out)
  have KP := Ho.mk (KP.out.bel HB.out)
  have F1 := Ho.mk (F1.out.bel HB.out)
  have F2 := Ho.mk (F2.out.bel HB.out)
  have G6 := Ho.mk (G5.out.tb HB.out)
  clear y2 TB HB G5
  obtain ⟨wo, rfl⟩ : ∃ wo : World, wo = wc := ⟨_, rfl⟩
  have FCl := FC.out.lt
  have FSl := FS.out.lt
  have KWl := KW.out.lt
  have KPl := KP.out.lt
  have KVl := KV.out.lt
  have lwo := G6.out.size
  have LL := Ho.mk (And.intro LW.out (And.intro LC.out (And.intro LS.out (And.intro FCl (And.intro FSl (And.intro KWl (And.intro KPl (And.intro KVl lwo))))))))
  have LB := Ho.mk (And.intro l1 (And.intro lb lb'))
  clear LW LC LS FCl FSl KWl KPl KVl lwo l1 lb lb' l4 l5
  go_wp2_with fail
  go_loopw [6] (fun v wr => ∃ (q bq : Nat) (z : Int), q ≤ p ∧ v = .pointer (some ⟨bq, 0, none⟩) ∧ Ho (z = q + 1) ∧ Ho (wo.heap.size ≤ bq) ∧ Ho (Blk wr bq 3 [.int .i64 z]) ∧ Ho (Fz wr b (stageS p (tabW p) (swapG opsN (bitsG p) X, swapG opsN (bitsG p) Y) q).1) ∧ Ho (Fz wr b' (stageS p (tabW p) (swapG opsN (bitsG p) X, swapG opsN (bitsG p) Y) q).2) ∧ Ho (Gr2 b b' wo wr)) (fun v w => p + 2 - qOf v w)
  case atStart =>
   have a1 := (Bel.refl wo).alloc (.cells #[.int .i64 1] 3)
   exact ⟨0, wo.heap.size, 1, Nat.zero_le _, rfl, ⟨by simp⟩, ⟨Nat.le_refl _⟩, ⟨Blk.new wo [.int .i64 1] 3⟩, ⟨F1.out.bel a1⟩, ⟨F2.out.bel a1⟩, ⟨gr2_bel a1 b b'⟩⟩
  case round =>
   obtain ⟨wq, rfl⟩ : ∃ wq : World, wq = wr := ⟨_, rfl⟩
   obtain ⟨q, bq, z, hq, rfl, HZ, HQ, KQ, FX, FY, HG⟩ := hrel
   have KP1 := Ho.mk (HG.out.blk KP.out (by have := LB.out; omega) (by have := LB.out; omega))
   have y2 := KP1.out.cell (i := 0) rfl
   have y3 := KQ.out.cell (i := 0) rfl
   rcases Nat.lt_or_ge q p with hlt | hge
   ·have hzp : z ≤ (p : Int) := by have := HZ.out; omega
    have hz1 : 1 ≤ z := by have := HZ.out; omega
    have KV1 := Ho.mk (HG.out.blk KV.out (by have := LB.out; omega) (by have := LB.out; omega))
    obtain ⟨st, hst⟩ : ∃ st, st = stageS p (tabW p) (swapG opsN (bitsG p) X, swapG opsN (bitsG p) Y) q := ⟨_, rfl⟩
    have HST := Ho.mk hst
    rw [← hst] at FX FY
    have hl := stageS_len (p := p) (tabW p) (st := (swapG opsN (bitsG p) X, swapG opsN (bitsG p) Y)) (by rw [swapG_len, HX.out, HN.out]) (by rw [swapG_len, HY.out, HN.out]) (k := q) (by omega)
    rw [← hst, ← HN.out] at hl
    have HSL := Ho.mk hl
    clear hst hl
    obtain ⟨half, hhalf⟩ : ∃ half, half = 2 ^ q := ⟨_, rfl⟩
    obtain ⟨many, hmany⟩ : ∃ many, many = 2 ^ (p - (q + 1)) := ⟨_, rfl⟩
    have hmN : many * (2 * half) = N := by rw [hmany, hhalf, HN.out]; exact pow_split hlt
    have hh0 : 0 < half := by rw [hhalf]; exact Nat.two_pow_pos q
    have HH := Ho.mk (And.intro hhalf hmany)
    have HMN := Ho.mk hmN
    clear hhalf hmany hmN
    have h2z : (2 : Int) ^ z.toNat = ((2 * half : Nat) : Int) := by
     rw [HH.out.1, show z.toNat = q + 1 by have := HZ.out; omega, Int.pow_succ]; push_cast; omega
    have hhN : 2 * half ≤ N := by
     have h1 : 0 < many := by rw [HH.out.2]; exact Nat.two_pow_pos _
     have := HMN.out
     have h2 : 1 * (2 * half) ≤ many * (2 * half) := Nat.mul_le_mul_right _ h1
     omega
    obtain ⟨H2, hH2⟩ : ∃ H2 : Nat, H2 = 2 * half := ⟨_, rfl⟩
    rw [← hH2] at h2z
    have HH2 := Ho.mk hH2
    clear hH2
    have hw1 : IntKind.i64.wrap ((2 : Int) ^ z.toNat) = (H2 : Int) := by rw [h2z, IntKind.wrap_i64]; have := HH2.out; omega
    have hw2 : wrap64 ((2 : Int) ^ z.toNat) = (H2 : Int) := by rw [h2z]; unfold wrap64; have := HH2.out; omega
    clear h2z
    go_wp2_with fail
    go_loopw [8] (fun v wr => ∃ (j F : Nat), j ≤ many ∧ v = .int .i64 (F : Int) ∧ Ho (F = j * (2 * half)) ∧ Ho (Fz wr b (mergesS half (fun k => tabW p (k * 2 ^ (p - (q + 1)))) st j).1) ∧ Ho (Fz wr b' (mergesS half (fun k => tabW p (k * 2 ^ (p - (q + 1)))) st j).2) ∧ Ho (Gr2 b b' wq wr)) (fun v _ => N - (intOf v).toNat)
    case atStart => exact ⟨0, 0, Nat.zero_le _, rfl, ⟨by simp⟩, FX, FY, ⟨Gr2.refl _ _ _⟩⟩
    case round =>
     obtain ⟨j, F, hj, rfl, HF, GX, GY, H1⟩ := hrel
     have lB := LB.out
     have lq := HQ.out
     have lLL := LL.out
     have KV2 := Ho.mk (H1.out.blk KV1.out (by omega) (by omega))
     have KQ2 := Ho.mk (H1.out.blk KQ.out (by omega) (by omega))
     have KP2 := Ho.mk (H1.out.blk KP1.out (by omega) (by omega))
     have v0 := KV2.out.cell (i := 0) rfl
     have v1 := KV2.out.cell (i := 1) rfl
     have q0 := KQ2.out.cell (i := 0) rfl
     have ML := Ho.mk (mergesS_len (half := half) (tw := fun k => tabW p (k * 2 ^ (p - (q + 1)))) (st := st) j)
     rcases Nat.lt_or_ge j many with jlt | jge
     ·have hFN : F + H2 ≤ N := by
       have h1 : (j + 1) * (2 * half) ≤ many * (2 * half) := Nat.mul_le_mul_right _ jlt
       have := HMN.out
       have := HF.out
       have := HH2.out
       rw [Nat.succ_mul] at h1; omega
      have hH20 : 0 < H2 := by have := HH2.out; omega
      obtain ⟨E, hE⟩ : ∃ E : Nat, E = F + H2 := ⟨_, rfl⟩
      have hEN : E ≤ N := by omega
      have hFE : F < E := by omega
      have hwE : IntKind.i64.wrap ((F : Int) + (H2 : Int)) = (E : Int) := by rw [hE, IntKind.wrap_i64]; omega
      have HE := Ho.mk hE
      have PT := Ho.mk (fun w => dPart (b := b) (b' := b') (o := 0) (n := N) (m := N) (f := F) (t := E) (c := c) (c' := c') w hFE (by omega) (by omega) hc hc' hC hC')
      have MG := Ho.mk (fun w (g : Bel wr w) => dMerge (half := half) (f := F) (c := c - F) (c' := c' - F) (b := b) (b' := b') (bw := bW) (bp := bp) (bq := bq) (N := N) (tw := fun k => tabW p (k * 2 ^ (p - (q + 1)))) w (GX.out.bel g) (GY.out.bel g) hb (by rw [ML.out.1]; exact HSL.out.1) (by rw [ML.out.2]; exact HSL.out.2)
       (by have := HH2.out; omega) hh0 (by omega) (by have := HH2.out; omega) (by have := HH2.out; omega) (by omega) (by omega)
       (fun k k0 kh w' gw => by
        have gg : Gr2 b b' wq w' := (H1.out.tb g).trans gw
        have gh : Gr2 b b' wo w' := HG.out.trans gg
        have hi : k * 2 ^ (p - (q + 1)) < N / 2 := by
         have h1 : k * 2 ^ (p - (q + 1)) < half * 2 ^ (p - (q + 1)) := Nat.mul_lt_mul_of_pos_right kh (Nat.two_pow_pos _)
         have h2 : many * (2 * half) = 2 * (half * 2 ^ (p - (q + 1))) := by rw [HH.out.2, Nat.mul_comm (2 ^ (p - (q + 1))), Nat.mul_assoc]
         have := HMN.out
         omega
        have hz : ((q + 1 : Nat) : Int) = z := by have := HZ.out; omega
        have h := dAt (k := k) (p := p) (q := q + 1) (m := N / 2) (bw := bW) (bp := bp) (bq := bq) w' (gh.blk KW.out (by omega) (by omega)) (gh.blk KP.out (by omega) (by omega)) (by rw [hz]; exact gg.blk KQ.out (by omega) (by omega))
         (gh.fk FC.out (by omega) (by omega)) (gh.fk FS.out (by omega) (by omega)) (by omega) hlt (by have := HH2.out; omega) hi (by simp) (by simp) (by omega)
        rw [nth_range _ hi, nth_range _ hi] at h
        exact h))
      have h2h : 2 * half = E - F := by have := HH2.out; omega
      rw [h2h] at MG
      simp only [Nat.zero_add] at PT
      clear hE h2h lB lq lLL
      go_upto_region 15 with fail
      refine wp_region_held_drew (S := fun w' => Blk w' W0.heap.size 24 [.slice (some ⟨b, 0, none⟩) N c, .slice (some ⟨b', 0, none⟩) N c'] ∧ Blk w' bq 3 [.int .i64 z]) (by kernel_rfl) ⟨KV2.out.bel (Bel.refl _).drew, KQ2.out.bel (Bel.refl _).drew⟩ (fun hHeld => ?_)
      (try dsimp only at hHeld)
      refine rl (i := 0) (v := ?_) hHeld (fun w hSw => ?_) ?_
      rotate_left
      ·(have z0 := hSw.1.cell (i := 0) rfl; have z1 := hSw.1.cell (i := 1) rfl; have z2 := hSw.2.cell (i := 0) rfl; go_simp; try (with_reducible rfl))
      refine rt (i := 1) hHeld ?_
      refine rt (i := 2) hHeld ?_
      refine rl (i := 3) (v := ?_) hHeld (fun w hSw => ?_) ?_
      rotate_left
      ·(have z0 := hSw.1.cell (i := 0) rfl; have z1 := hSw.1.cell (i := 1) rfl; have z2 := hSw.2.cell (i := 0) rfl; go_simp; try (with_reducible rfl))
      refine rt (i := 4) hHeld ?_
      refine rt (i := 5) hHeld ?_
      refine rt (i := 7) hHeld ?_
      try simp only [Act.put, List.setIfInBounds_toArray, List.set_cons_zero, List.set_cons_succ]
      refine rc (i := 6) (fun K hK => ?_)
      go_simp
      go_at_call 105
      (with_reducible refine (PT.out _).mono ?_); rintro e w8 ⟨rfl, b8⟩
      try go_wp2_with fail
      refine hK.out _ _ ⟨hHeld.1.bel b8, hHeld.2.bel b8⟩ (fun hHeld => ?_)
      clear hK K
      try simp only [Act.put, List.setIfInBounds_toArray, List.set_cons_zero, List.set_cons_succ]
      refine rc (i := 8) (fun K hK => ?_)
      go_simp
      go_at_call 104
      (with_reducible refine (MG.out _ ((Bel.refl _).drew.trans b8)).mono ?_); rintro e w9 ⟨rfl, x9, y9, g9⟩
      try go_wp2_with fail
      have GX9 := Ho.mk x9
      have GY9 := Ho.mk y9
      have gG := (gr2_bel ((Bel.refl wr).drew.trans b8) b b').trans g9
      clear x9 y9
      refine hK.out _ _ ⟨g9.blk hHeld.1 (by have := LB.out; omega) (by have := LB.out; omega), g9.blk hHeld.2 (by have := LB.out; have := HQ.out; have := LL.out; omega) (by have := LB.out; have := HQ.out; have := LL.out; omega)⟩ (fun hHeld => ?_)
      clear hK K
      try simp only [Act.put, List.setIfInBounds_toArray, List.set_cons_zero, List.set_cons_succ]
      refine wpAnyH_done (by kernel_rfl) ?_ _
      clear hHeld
      have q0 := (gG.blk KQ2.out (by have := LB.out; have := HQ.out; have := LL.out; omega) (by have := LB.out; have := HQ.out; have := LL.out; omega)).cell (i := 0) rfl
      have GG := Ho.mk ((gr2_bel ((Bel.refl wr).drew.trans b8) b b').trans g9)
      clear g9 b8
      go_wp2
      go_roundw
      case rel =>
       refine ⟨j + 1, F + H2, by omega, by rw [HE.out], ⟨?_⟩, ⟨?_⟩, ⟨?_⟩, ⟨H1.out.trans GG.out⟩⟩
       ·have := HF.out; have := HH2.out; rw [Nat.succ_mul]; omega
       ·rw [mergesS_succ, ← HF.out]; exact GX9.out
       ·rw [mergesS_succ, ← HF.out]; exact GY9.out
      case measure => simp [intOf]; omega
     ·obtain rfl : j = many := by omega
      have e9 : stageS p (tabW p) (swapG opsN (bitsG p) X, swapG opsN (bitsG p) Y) (q + 1) = mergesS half (fun k => tabW p (k * 2 ^ (p - (q + 1)))) st j := by
       rw [stageS_succ, ← HST.out, ← HH.out.1, ← HH.out.2]; rfl
      have HE9 := Ho.mk e9
      have hFN : ¬ F < N := by have := HF.out; have := HMN.out; omega
      have GZ := Ho.mk (HG.out.trans H1.out)
      have lz := GZ.out.size
      clear e9 KV1 KP1
      go_wp2_with fail
      go_roundw
      case rel =>
       have aa := (Bel.refl wr).alloc (.cells #[.int .i64 (z + 1)] 3)
       exact ⟨q + 1, wr.heap.size, z + 1, by omega, rfl, ⟨by have := HZ.out; omega⟩, ⟨lz⟩, ⟨Blk.new wr [.int .i64 (z + 1)] 3⟩, ⟨by rw [HE9.out]; exact GX.out.bel aa⟩, ⟨by rw [HE9.out]; exact GY.out.bel aa⟩, ⟨GZ.out.tb aa⟩⟩
      case measure =>
       rw [qOf_blk (Blk.new wr [.int .i64 (z + 1)] 3), qOf_blk KQ.out]
       have := HZ.out
       omega
   ·obtain rfl : q = p := by omega
    have hzp : (q : Int) < z := by have := HZ.out; omega
    go_wp2
    go_ret
    exact ⟨rfl, FX.out, FY.out, G6.out.trans HG.out⟩
end P8
namespace Pc
open Ieee Go Go.RowKit Go.Proofs Go.Proofs.YtnbdoidccacdnaaGreatDoor Ow Dt Gp U0 W0 S4 S6 P0 M0 M1 M2 M3 P4 P5 P6 P8 W4 W5 W1 W2
attribute [local go_sem ↓] Go.wp_at_zero Go.wp_at_succ
def intoN (p : Nat) (st : List Nat × List Nat) : List Nat × List Nat := intoG opsN (bitsG p) p (tabW p) st
theorem intoN_len {p : Nat} {st : List Nat × List Nat} (h1 : st.1.length = 2 ^ p) (h2 : st.2.length = 2 ^ p) : (intoN p st).1.length = 2 ^ p ∧ (intoN p st).2.length = 2 ^ p := by
 refine stages_len opsN (fun q k => tabW p (k * 2 ^ (p - (q + 1)))) (st := (swapG opsN (bitsG p) st.1, swapG opsN (bitsG p) st.2)) ?_ ?_ (Nat.le_refl p)
 ·rw [swapG_len]; exact h1
 ·rw [swapG_len]; exact h2
end Pc
namespace Pe
open Ieee Go Go.RowKit Go.Proofs Go.Proofs.YtnbdoidccacdnaaGreatDoor Ow Dt Gp G9 U0 W0 S4 S6 P0 M0 M1 M2 M3 P4 P5 P6 P8 W4 W5 W1 W2 Pc
attribute [local go_sem ↓] Go.wp_at_zero Go.wp_at_succ
def Cl (X : List Nat) : Prop := ∀ x ∈ X, x < 2 * sgnW ∧ cn x = x
theorem Fz.cl {w : World} {b : Nat} {X : List Nat} (h : Fz w b X) : Cl X := fun x hx => by
 obtain ⟨i, hi, rfl⟩ := List.getElem_of_mem hx
 obtain ⟨r, _, h1, h2⟩ := h.at_ hi
 rw [nthN_lt hi] at h2
 rw [← h2]; exact ⟨cn_lt h1, cn_idem r⟩
theorem Fr.cl {w : World} {A : Option Addr} {X : List Nat} (h : Fr w A X) : Cl X := fun x hx => by
 obtain ⟨i, hi, rfl⟩ := List.getElem_of_mem hx
 obtain ⟨ad, r, _, _, h1, h2⟩ := h.at_ hi
 rw [nthN_lt hi] at h2
 rw [← h2]; exact ⟨cn_lt h1, cn_idem r⟩
end Pe
namespace Pg
open Ieee Go Go.RowKit Go.Proofs Go.Proofs.YtnbdoidccacdnaaGreatDoor Ow Dt Gp I0 U0 W0 S4 S6 P0 M0 M1 M2 M3 P4 P5 P6 P8 W4 W5 W1 W2 Pc Pe
attribute [local go_sem ↓] Go.wp_at_zero Go.wp_at_succ
structure In (w : World) (v : Value) (X : List Nat) : Prop where
 out : ∃ A c, v = .slice A X.length c ∧ X.length ≤ c ∧ c ≤ 9223372036854775807 ∧ Fr w A X ∧ (A = none → X.length = 0)
theorem In.bel {w w' : World} {v : Value} {X : List Nat} (h : In w v X) (g : Bel w w') : In w' v X := by
 obtain ⟨A, c, h1, h2, h3, h4, h5⟩ := h.out
 exact ⟨A, c, h1, h2, h3, h4.bel g, h5⟩
theorem RowF.inn {w : World} {B : Nat} {v : Value} {X : List Nat} (h : RowF w B v X) (hm : X.length ≤ 35184372088831) : In w v X := by
 obtain ⟨A, c, h1, h2, h3, h4⟩ := h.out
 refine ⟨A, c, h1, h2, h3, ?_, fun e => ?_⟩
 ·rcases h4 with h4 | ⟨b, rfl, f, l⟩
  ·obtain rfl := List.length_eq_zero_iff.1 h4; exact Fr.nil _ _
  ·exact f.fr hm
 ·rcases h4 with h4 | ⟨b, rfl, f, l⟩
  ·exact h4
  ·cases e
theorem In.cl {w : World} {v : Value} {X : List Nat} (h : In w v X) : Cl X := by
 obtain ⟨A, c, h1, h2, h3, h4, h5⟩ := h.out
 exact Fr.cl h4
theorem two_nil (w : World) (B : Nat) : Two w B (.slice none 0 0) (.slice none 0 0) [] [] := ⟨RowF.nil _ _ _ _ (by decide), RowF.nil _ _ _ _ (by decide), fun b b' o o' n n' c c' e => by cases e⟩
theorem Two.keep {w w' : World} {B b' : Nat} {u0 u1 : Value} {X Y : List Nat} (h : Two w B u0 u1 X Y) (hY : ∀ n c, u1 = .slice (some ⟨b', 0, none⟩) n c → 0 < Y.length → Fz w' b' Y) (g : Gr b' w w') (h1 : ∃ n c, u1 = .slice (some ⟨b', 0, none⟩) n c) (hp : 0 < Y.length) : Two w' B u0 u1 X Y := by
 obtain ⟨n1, c1, e1⟩ := h1
 obtain ⟨b2, c2, e2, l2, C2, f2, B2⟩ := h.two.at_ hp
 rw [e1] at e2; cases e2
 refine ⟨?_, ?_, h.ne⟩
 ·obtain ⟨A, c, e, l, C, d⟩ := h.one.out
  refine ⟨A, c, e, l, C, ?_⟩
  rcases d with d | ⟨b, rfl, f, lb⟩
  ·exact .inl d
  ·by_cases hx : 0 < X.length
   ·exact .inr ⟨b, rfl, gr_fz g f (h.ne b b' 0 0 _ _ _ _ e e1 hx hp), lb⟩
   ·exact .inl (by omega)
 ·subst e1
  exact ⟨_, _, rfl, l2, C2, .inr ⟨b', rfl, hY _ _ rfl hp, B2⟩⟩
end Pg
namespace Y3
open Ieee Go Go.RowKit Go.Proofs Go.Proofs.YtnbdoidccacdnaaGreatDoor Ow Dt Gp I0 W0 S4 M0 M1 M3 W4 W5 V2
open Go.Proofs.YtnbdoidccacdnaaGreatDoor.V1 (NI St ni_same ni_loop St.refl St.of_bel blk_keep ni_blk put_st)
open Go.Proofs.YtnbdoidccacdnaaGreatDoor.J2 (Oz NP run_app)
open Go.Proofs.YtnbdoidccacdnaaGreatDoor.C6 (leaveAny)
open Go.Proofs.YtnbdoidccacdnaaGreatDoor.Pg (In)
attribute [local go_sem ↓] Go.wp_at_zero Go.wp_at_succ
attribute [local go_sem] Oper.semAt_some
def encI (i : Int) : Array Value := #[.int .i64 i]
def Walks (w : World) (gf : Nat) (lb : Array Value) (ys : List Int) : Prop := ∀ (n l : Nat) (W : World) (ks : List Nat), 1 ≤ n → Bel w W → (∀ k ∈ ks, w.heap.size ≤ k) →
 SeqB Tryz.prog n l gf lb encI ks ys.length (fun pre x _ => ys[pre.length]? = some x) (fun zs => zs = ys) (fun _ => True) W
def steps (fr by' : Int) (m : Nat) : List Int := (List.range m).map fun (k : Nat) => fr + k * by'
theorem steps_len (fr by' : Int) (m : Nat) : (steps fr by' m).length = m := by simp [steps]
theorem steps_at {fr by' : Int} {m k : Nat} (h : k < m) : (steps fr by' m)[k]? = some (fr + k * by') := by simp [steps, h]
theorem steps_succ (fr by' : Int) (k : Nat) : steps fr by' (k + 1) = steps fr by' k ++ [fr + k * by'] := by simp [steps, List.range_succ]
theorem places1 {fr by' en : Int} {m : Nat} (w : World) {bf be bb : Nat} (KF : Blk w bf 3 [.int .i64 fr]) (KE : Blk w be 3 [.int .i64 en]) (KB : Blk w bb 3 [.int .i64 by']) (hby : by' ≠ 0) (b1 : -1000000 ≤ fr ∧ fr ≤ 1000000) (b2 : -1000000 ≤ en ∧ en ≤ 1000000) (b3 : -1000000 ≤ by' ∧ by' ≤ 1000000)
  (hin : ∀ k : Nat, k < m → 0 ≤ fr + k * by' ∧ fr + k * by' < en) (hout : ¬ (0 ≤ fr + m * by' ∧ fr + m * by' < en)) :
  Walks w 152 #[.pointer (some ⟨bf, 0, none⟩), .pointer (some ⟨be, 0, none⟩), .pointer (some ⟨bb, 0, none⟩)] (steps fr by' m) := by
 intro n l W ks hn hW hks J Jx _ hJ hJx hY h0
 have lf := KF.lt
 have le := KE.lt
 have lb := KB.lt
 have KF := Ho.mk (KF.bel hW)
 have KE := Ho.mk (KE.bel hW)
 have KB := Ho.mk (KB.bel hW)
 have n1 : bf ∉ ks := fun q => by have := hks _ q; omega
 have n2 : be ∉ ks := fun q => by have := hks _ q; omega
 have n3 : bb ∉ ks := fun q => by have := hks _ q; omega
 have NK := Ho.mk (And.intro n1 (And.intro n2 n3))
 have HY := Ho.mk hY
 have H0 := Ho.mk h0
 have HIN := Ho.mk hin
 have HOUT := Ho.mk hout
 clear hY h0 hin hout n1 n2 n3 lf le lb hks hW
 have y0 := KF.out.cell (i := 0) rfl
 refine callsIn_wide.2 ?_
 go_enter Tryz.func152, Tryz.ntmps152
 refine (wpIn_wide (n := n)).1 ?_
 gi_wp2_with fail
 clear y0
 gi_loopw [5] (fun i wr => ∃ (z : Int) (k : Nat) (O : List Nat), i = .int .i64 z ∧ Ho (z = fr + k * by') ∧ k ≤ m ∧ Ho (J (steps fr by' k) O wr) ∧ Ho (Wk ks W wr) ∧ Ho (∀ q ∈ O, W.heap.size ≤ q)) (fun i _ => if 0 < by' then (en - intOf i).toNat else (intOf i + 1).toNat)
 case atStart => exact ⟨fr, 0, [], rfl, ⟨by simp⟩, Nat.zero_le _, H0, ⟨Wk.refl _ _⟩, ⟨by simp⟩⟩
 case round =>
  obtain ⟨z, k, O, rfl, hz, hk, hj, hw, hO⟩ := hrel
  have y1 := (hw.out.blk NK.out.2.1 KE.out).cell (i := 0) rfl
  rcases Nat.lt_or_ge k m with hlt | hge
  ·have hz2 := HIN.out k hlt
   rw [← hz.out] at hz2
   have hz3 := hz2.1
   have hz4 := hz2.2
   obtain ⟨fn, tmps, assign, body, hy, hR⟩ := HY.out _ O z wr hj.out (by rw [steps_len, steps_len]; exact hlt) (by rw [steps_len, steps_at hlt, hz.out]) hO.out hw.out.size
   dsimp only [encI] at hy
   clear hz2
   gi_wp2
   refine hR.mono ?_
   rintro e w4 (⟨rfl, hJ4, hY4⟩ | ⟨rfl, hJ4, hY4⟩)
   ·have y2 := ((hw.out.yd hY4).blk NK.out.2.2 KB.out).cell (i := 0) rfl
    have HJ := Ho.mk hJ4
    have HW := Ho.mk (hw.out.yd hY4)
    clear hJ4 hY4 hR hy y1
    gi_wp2
    go_roundw
    case rel => exact ⟨z + by', k + 1, O, rfl, ⟨by rw [hz.out]; push_cast; rw [Int.add_mul]; omega⟩, by omega, ⟨by rw [steps_succ, ← hz.out]; exact HJ.out⟩, HW, hO⟩
    case measure => simp only [intOf]; split <;> omega
   ·clear hR
    gi_wp2
    refine bodyPost_ret (results_none rfl _ _ _) rfl ?_
    exact ⟨⟨_, rfl⟩, .inr ⟨_, O, trivial, hJ4, hO.out⟩⟩
  ·obtain rfl : k = m := by omega
   have hn2 := HOUT.out
   rw [← hz.out] at hn2
   by_cases h1 : 0 ≤ z
   ·have h2 : en ≤ z := by omega
    clear hn2
    gi_wp2
    go_end0
    first | exact ⟨⟨_, rfl⟩, .inl ⟨_, O, rfl, hj.out, hO.out⟩⟩ | exact ⟨⟨_, rfl⟩, .inl ⟨O, hj.out, hO.out⟩⟩
   ·have h2 : z < 0 := by omega
    clear hn2 h1
    gi_wp2
    go_end0
    first | exact ⟨⟨_, rfl⟩, .inl ⟨_, O, rfl, hj.out, hO.out⟩⟩ | exact ⟨⟨_, rfl⟩, .inl ⟨O, hj.out, hO.out⟩⟩
theorem dPlaces {fr by' en : Int} (w : World) :
  Calls Tryz.prog 122 #[.int .i64 fr, .int .i64 by', .int .i64 en] w
   (fun e w' => e = .returned (.func (.func 152) #[] #[.pointer (some ⟨w.heap.size, 0, none⟩), .pointer (some ⟨w.heap.size + 1 + 1, 0, none⟩), .pointer (some ⟨w.heap.size + 1, 0, none⟩)]) ∧
    w' = ((w.alloc (.cells #[.int .i64 fr] 3)).alloc (.cells #[.int .i64 by'] 3)).alloc (.cells #[.int .i64 en] 3)) := by
 go_enter Tryz.func122, Tryz.ntmps122
 go_wp2
 refine bodyPost_ret (results_tmp rfl _ _ _) rfl ?_
 simp
theorem dPlacesW {fr by' en : Int} {m : Nat} (w : World) (hby : by' ≠ 0) (b1 : -1000000 ≤ fr ∧ fr ≤ 1000000) (b2 : -1000000 ≤ en ∧ en ≤ 1000000) (b3 : -1000000 ≤ by' ∧ by' ≤ 1000000)
  (hin : ∀ k : Nat, k < m → 0 ≤ fr + k * by' ∧ fr + k * by' < en) (hout : ¬ (0 ≤ fr + m * by' ∧ fr + m * by' < en)) :
  Calls Tryz.prog 122 #[.int .i64 fr, .int .i64 by', .int .i64 en] w
   (fun e w' => ∃ lb, e = .returned (.func (.func 152) #[] lb) ∧ Walks w' 152 lb (steps fr by' m) ∧ Bel w w') := by
 refine (dPlaces w).mono ?_
 rintro e w' ⟨rfl, rfl⟩
 have K1 := ((Blk.new w [.int .i64 fr] 3).old (.cells #[.int .i64 by'] 3)).old (.cells #[.int .i64 en] 3)
 have K2 := (Blk.new (w.alloc (.cells #[.int .i64 fr] 3)) [.int .i64 by'] 3).old (.cells #[.int .i64 en] 3)
 have K3 := Blk.new ((w.alloc (.cells #[.int .i64 fr] 3)).alloc (.cells #[.int .i64 by'] 3)) [.int .i64 en] 3
 simp only [World.size_alloc] at K2 K3
 exact ⟨_, rfl, places1 _ K1 K3 K2 hby b1 b2 b3 hin hout, (((Bel.refl w).alloc _).alloc _).alloc _⟩
structure Og (w : World) (v : Value) (Z : List Nat) : Prop where
 out : ∃ cs, Oz w 50 1 v Z.length cs ∧ ∀ j u, cs[j]? = some u → Fc u (nthN Z j)
theorem Og.nil (w : World) : Og w (.slice none 0 0) [] := ⟨[], Oz.nil _ _ _, fun j u h => by simp at h⟩
theorem Og.keep {w w' : World} {v : Value} {Z : List Nat} (h : Og w v Z) (k : ∀ g, v.ownBlock = some g → w'.heap[g]? = w.heap[g]?) : Og w' v Z := by
 obtain ⟨cs, h1, h2⟩ := h.out; exact ⟨cs, h1.keep k, h2⟩
theorem Og.lt {w : World} {v : Value} {Z : List Nat} (h : Og w v Z) {g : Nat} (hg : v.ownBlock = some g) : g < w.heap.size := by obtain ⟨cs, h1, _⟩ := h.out; exact h1.lt hg
theorem Og.slice {w : World} {v : Value} {Z : List Nat} (h : Og w v Z) : ∃ A c, v = .slice A Z.length c := by
 obtain ⟨cs, h1, _⟩ := h.out
 rcases h1.row with ⟨e, e2⟩ | ⟨g, cap, cur, e, _⟩
 ·exact ⟨none, 0, by rw [e, e2]⟩
 ·exact ⟨_, _, e⟩
theorem Og.rowF {w : World} {B : Nat} {v : Value} {Z : List Nat} (h : Og w v Z) (hB : ∀ g, v.ownBlock = some g → B ≤ g) : RowF w B v Z := by
 obtain ⟨cs, h1, h2⟩ := h.out
 have hl := h1.len
 rcases h1.row with ⟨rfl, h0⟩ | ⟨g, cap, cur, rfl, hb, k1, k2, k3, k4, _⟩
 ·exact ⟨none, 0, by rw [h0], by omega, by decide, .inl h0⟩
 ·refine ⟨_, cap, rfl, k1, by simp only [maxLen] at k2; omega, .inr ⟨g, rfl, ⟨cur.toList, ⟨by simpa using hb⟩, fun j hj => ?_⟩, hB g rfl⟩⟩
  have hjl : j < cs.length := by omega
  refine ⟨cs[j], ?_, h2 j _ (List.getElem?_eq_getElem hjl)⟩
  have : (cur.toList.take cs.length)[j]? = some cs[j] := by rw [k4]; exact List.getElem?_eq_getElem hjl
  rw [List.getElem?_take, if_pos hjl] at this
  exact this
theorem wp_appF {w : World} {o : Oper} {a : Act} {K : Act → World → Prop} {Q : Exit → Act → World → Prop} (s x : Operand) (ho : o.op = .call { callee := .builtin .append, args := #[s, x], argTypes := #[22, 22] })
  {v : Value} {Z : List Nat} (H : Og w v Z) (hs : a.eval s = v) {g c r : Nat} (hx : a.eval x = .slice (some ⟨g, 0, none⟩) 1 c) (hc : w.cell? ⟨g, 0, none⟩ = some (.float .f64 r)) (hr : r < 2 * sgnW) (hl : Z.length ≤ 100000)
  (h : ∀ v' w', Og w' v' (Z ++ [cn r]) → (w'.os = w.os ∧ w'.tape = w.tape ∧ w'.output = w.output ∧ w.heap.size ≤ w'.heap.size) → (∀ k, k < w.heap.size → w'.heap[k]? = w.heap[k]? ∨ (v.ownBlock = some k ∧ NI w k)) → (v'.ownBlock = v.ownBlock ∨ v'.ownBlock = some w.heap.size) → K (a.put o.dst v') w') :
  o.wp Tryz.prog a w K Q := by
 obtain ⟨cs, h1, h2⟩ := H.out
 obtain ⟨i, hi, hzz⟩ := Option.map_eq_some_iff.1 infoF
 simp only [Prod.mk.injEq] at hzz
 obtain ⟨hz, hsz, hb⟩ := hzz
 obtain ⟨v', w', hr', g1, g2, g3, g4⟩ := run_app (P := Tryz.prog) w 22 o.type 50 i (.float .f64 0) 1 8 Tryz.underlying22 hi hz hsz hb rfl (by decide) (by intro u hu z e; simp [Value.cells] at hu; subst hu; cases e) v Z.length cs h1 ⟨g, 0, none⟩ c [.float .f64 r] rfl
  (fun j u hj => by cases j with
   | zero => simp at hj; subst hj; rw [Addr.add_lit]; exact hc
   | succ j => simp at hj) (fun u hu => by simp at hu; subst hu; rfl) (fun u hu z e => by simp at hu; subst hu; cases e) (by omega) (by omega)
 unfold Oper.wp
 simp [execOp, ho, resolve, invoke, builtin, hs, hx, hr', Result.andThen]
 refine h v' w' ⟨cs ++ [.float .f64 r], by rw [List.length_append]; exact g1, fun j u hj => ?_⟩ g2 g3 g4
 have hcl := h1.len
 rw [List.getElem?_append] at hj
 split at hj
 ·rename_i hlt
  have := h2 j u hj
  rw [nthN_lt (by omega)] at this
  rw [nthN_lt (by rw [List.length_append]; omega), List.getElem_append_left (by omega)]; exact this
 ·rename_i hge
  have h0 : j - cs.length = 0 := by
   rcases hq : j - cs.length with _ | q
   ·rfl
   ·rw [hq] at hj; simp at hj
  rw [h0] at hj
  simp at hj
  subst hj
  have hjz : j = Z.length := by omega
  subst hjz
  refine ⟨r, rfl, hr, ?_⟩
  rw [nthN_lt (by simp)]; simp
theorem Og.far {w : World} {v : Value} {Z : List Nat} (h : Og w v Z) {p : Addr} (hp : v.ownBlock ≠ some p.block) (u : Value) : Og (w.setCell p u) v Z := h.keep fun g hg => Below.heap_setCell _ _ _ _ (fun e => hp (by rw [hg, e]))
theorem Og.bel {w w' : World} {v : Value} {Z : List Nat} (h : Og w v Z) (g : Bel w w') : Og w' v Z := h.keep fun k hk => g.block (h.lt hk)
theorem Og.form {w : World} {v : Value} {Z : List Nat} (h : Og w v Z) (hp : 0 < Z.length) : ∃ g c, v = .slice (some ⟨g, 0, none⟩) Z.length c ∧ Z.length ≤ c := by
 obtain ⟨cs, h1, h2⟩ := h.out
 rcases h1.row with ⟨rfl, h0⟩ | ⟨g, cap, cur, rfl, hb, k1, k2, k3, k4, _⟩
 ·omega
 ·exact ⟨g, cap, rfl, k1⟩
theorem Og.fz {w : World} {g n c : Nat} {Z : List Nat} (h : Og w (.slice (some ⟨g, 0, none⟩) n c) Z) : Fz w g Z := by
 obtain ⟨cs, h1, h2⟩ := h.out
 have hl := h1.len
 rcases h1.row with ⟨e, h0⟩ | ⟨g', cap, cur, e, hb, k1, k2, k3, k4, _⟩
 ·cases e
 ·cases e
  refine ⟨cur.toList, ⟨by simpa using hb⟩, fun j hj => ?_⟩
  have hjl : j < cs.length := by omega
  refine ⟨cs[j], ?_, h2 j _ (List.getElem?_eq_getElem hjl)⟩
  have : (cur.toList.take cs.length)[j]? = some cs[j] := by rw [k4]; exact List.getElem?_eq_getElem hjl
  rw [List.getElem?_take, if_pos hjl] at this
  exact this
theorem Og.setF {w : World} {g n c : Nat} {Z : List Nat} (h : Og w (.slice (some ⟨g, 0, none⟩) n c) Z) (i : Nat) {r x : Nat} (hr : r < 2 * sgnW) (hx : cn r = x) : Og (w.setCell ⟨g, i, none⟩ (.float .f64 r)) (.slice (some ⟨g, 0, none⟩) n c) (Z.set i x) := by
 obtain ⟨cs, h1, h2⟩ := h.out
 have hl := h1.len
 rcases h1.row with ⟨e, h0⟩ | ⟨g', cap, cur, e, hb, k1, k2, k3, k4, k5⟩
 ·cases e
 ·cases e
  have hnp : NP (cur.toList.set i (.float .f64 r)) := fun x hx z e => by
   rcases List.mem_or_eq_of_mem_set hx with q | q
   ·exact k5 x q z e
   ·subst q; cases e
  refine ⟨cs.set i (.float .f64 r), ⟨by rw [List.length_set, List.length_set]; exact hl, .inr ⟨g, c, (cur.toList.set i (.float .f64 r)).toArray, by rw [List.length_set], ?_, by rw [List.length_set]; exact k1, k2, by simp; omega, ?_, by simpa using hnp⟩⟩, fun j u hj => ?_⟩
  ·have KB : Blk w g 50 cur.toList := ⟨by simpa using hb⟩
   exact (KB.set i (.float .f64 r)).out
  ·rw [List.length_set]
   show List.take cs.length (cur.toList.set i _) = _
   rw [List.take_set, k4]
  ·rw [nthN_set]
   rw [List.getElem?_set] at hj
   by_cases e : i = j
   ·subst e
    by_cases hi : i < cs.length
    ·rw [if_pos rfl, if_pos hi] at hj
     cases hj
     rw [if_pos ⟨rfl, by omega⟩]
     exact ⟨r, rfl, hr, hx⟩
    ·rw [if_pos rfl, if_neg hi] at hj; cases hj
   ·rw [if_neg e] at hj
    rw [if_neg (fun q => e q.1)]
    exact h2 j u hj
theorem wpList_appF {w : World} {ops : Array Oper} {rest : List Oper} {o : Oper} {a : Act} {Q : Exit → Act → World → Prop} (hgd : o.guard = none) (s x : Operand) (ho : o.op = .call { callee := .builtin .append, args := #[s, x], argTypes := #[22, 22] })
  {v : Value} {Z : List Nat} (H : Og w v Z) (hs : a.eval s = v) {g c r : Nat} (hx : a.eval x = .slice (some ⟨g, 0, none⟩) 1 c) (hc : w.cell? ⟨g, 0, none⟩ = some (.float .f64 r)) (hr : r < 2 * sgnW) (hl : Z.length ≤ 100000)
  (h : ∀ v' w', Og w' v' (Z ++ [cn r]) → (w'.os = w.os ∧ w'.tape = w.tape ∧ w'.output = w.output ∧ w.heap.size ≤ w'.heap.size) → (∀ k, k < w.heap.size → w'.heap[k]? = w.heap[k]? ∨ (v.ownBlock = some k ∧ NI w k)) → (v'.ownBlock = v.ownBlock ∨ v'.ownBlock = some w.heap.size) → wpList Tryz.prog ops Q rest (a.put o.dst v') w') :
  wpList Tryz.prog ops Q (o :: rest) a w := wpList_plain hgd fun K hK' => wp_appF s x ho H hs hx hc hr hl (fun v' w' a b c d => hK' _ _ (h v' w' a b c d))
structure Ap (w w' : World) (v v' : Value) : Prop where
 os : w'.os = w.os
 tape : w'.tape = w.tape
 output : w'.output = w.output
 size : w.heap.size ≤ w'.heap.size
 same : ∀ k, k < w.heap.size → v.ownBlock ≠ some k → w'.heap[k]? = w.heap[k]?
 own : v'.ownBlock = v.ownBlock ∨ v'.ownBlock = some w.heap.size
theorem Ap.bel {u w w' : World} {v v' : Value} (h : Ap w w' v v') (k : Bel u w) (hv : ∀ g, v.ownBlock = some g → u.heap.size ≤ g) : Bel u w' :=
 ⟨k.out.trans ⟨h.os, h.tape, h.output, h.size, fun i hi => h.same i (by have := k.size; omega) (fun e => by have := hv i e; omega)⟩⟩
theorem Ap.blk {w w' : World} {v v' : Value} (h : Ap w w' v v') {b : Nat} {t : TypeId} {cs : List Value} (k : Blk w b t cs) (hb : v.ownBlock ≠ some b) : Blk w' b t cs := blk_keep k (h.same b k.lt hb)
theorem Ap.og {w w' : World} {v v' u : Value} {Z : List Nat} (h : Ap w w' v v') (k : Og w u Z) (hb : ∀ g, u.ownBlock = some g → v.ownBlock ≠ some g) : Og w' u Z := k.keep fun g hg => h.same g (k.lt hg) (hb g hg)
theorem wpList_appA {w : World} {ops : Array Oper} {rest : List Oper} {o : Oper} {a : Act} {Q : Exit → Act → World → Prop} (hgd : o.guard = none) (s x : Operand) (ho : o.op = .call { callee := .builtin .append, args := #[s, x], argTypes := #[22, 22] })
  {v : Value} {Z : List Nat} (H : Og w v Z) (hs : a.eval s = v) {g c r : Nat} (hx : a.eval x = .slice (some ⟨g, 0, none⟩) 1 c) (hc : w.cell? ⟨g, 0, none⟩ = some (.float .f64 r)) (hr : r < 2 * sgnW) (hl : Z.length ≤ 100000) {Z' : List Nat} (hZ : Z' = Z ++ [cn r])
  (h : ∀ A c' w', Og w' (.slice A Z'.length c') Z' → Ap w w' v (.slice A Z'.length c') → wpList Tryz.prog ops Q rest (a.put o.dst (.slice A Z'.length c')) w') :
  wpList Tryz.prog ops Q (o :: rest) a w := wpList_appF hgd s x ho H hs hx hc hr hl fun v' w' k1 k2 k3 k4 => by
 subst hZ
 obtain ⟨A, c', rfl⟩ := k1.slice
 exact h A c' w' k1 ⟨k2.1, k2.2.1, k2.2.2.1, k2.2.2.2, fun k hk hn => (k3 k hk).elim id (fun q => (hn q.1).elim), k4⟩
structure IP (w : World) (b2 b5 : Nat) (L : Value) (pre : List Int) (X : List Nat) (O : List Nat) (W : World) (v : Value) : Prop where
 bel : Bel w W
 big : b5 + 1 ≤ W.heap.size
 own : ∀ k ∈ O, b5 + 1 ≤ k
 top : ∀ k ∈ O, k < W.heap.size
 lst : Blk W b2 22 [L]
 var : Blk W b5 22 [v]
 row : Og W v (pre.map fun i => nthN X i.toNat)
 far : ∀ g, v.ownBlock = some g → g ∉ O ∧ b5 + 3 ≤ g
theorem ip_abides {w : World} {b2 b5 : Nat} {L : Value} {X : List Nat} (h0 : w.heap.size ≤ b2) (h1 : b2 < b5) (pre : List Int) : V1.Abides fun O W => ∃ v, IP w b2 b5 L pre X O W v := by
 rintro O A O' B ⟨v, h⟩ hs h2 h3
 have same : ∀ k, k < A.heap.size → k ∉ O → B.heap[k]? = A.heap[k]? := fun k hk hn => (hs.block k hk).elim id (fun q => (hn q.1).elim)
 have low : ∀ k, k ≤ b5 → k ∉ O := fun k hk q => by have := h.own k q; omega
 have hb := h.big
 have sz := hs.size
 refine ⟨v, ⟨⟨⟨hs.os.trans h.bel.out.os, hs.tape.trans h.bel.out.tape, hs.output.trans h.bel.out.output, Nat.le_trans h.bel.size sz, fun k hk => (same k (Nat.lt_of_lt_of_le hk h.bel.size) (low k (by omega))).trans (h.bel.out.block k hk)⟩⟩, by omega,
  fun k hk => (h3 k hk).elim (h.own k) (fun q => by omega), fun k hk => (h3 k hk).elim (fun q => Nat.lt_of_lt_of_le (h.top k q) sz) (fun q => q.2), blk_keep h.lst (same _ (by omega) (low _ (by omega))), blk_keep h.var (same _ (by omega) (low _ (by omega))),
  h.row.keep (fun g hg => same g (h.row.lt hg) (h.far g hg).1), fun g hg => ⟨fun q => (h3 g q).elim (h.far g hg).1 (fun q => by have := h.row.lt hg; omega), (h.far g hg).2⟩⟩⟩
theorem dPicked {A : Option Addr} {c gf : Nat} {lb : Array Value} {X : List Nat} {ys : List Int} (w : World) (hx : In w (.slice A X.length c) X) (hl : X.length ≤ 100000) (hy : ∀ i ∈ ys, 0 ≤ i ∧ i < X.length) (hys : ys.length ≤ 100000) (hw : Walks w gf lb ys) (eg : ∀ args w, (callFunc gf args).run Tryz.prog w = .ok (.enter gf args) w) :
  Calls Tryz.prog 121 #[.slice A X.length c, .func (.func gf) #[] lb] w fun e w' => ∃ v, e = .returned v ∧ (Og w' v (ys.map fun i => nthN X i.toNat) ∧ ∀ g, v.ownBlock = some g → w.heap.size ≤ g) ∧ Bel w w' := by
 have HX := Ho.mk hx
 have HW := Ho.mk hw
 have HY := Ho.mk hy
 clear hx hw hy
 refine (callsIn_wide (n := 3)).1 ?_
 refine callsIn_of_wp_marks Tryz.func121 rfl trivial ?_ rfl
 simp only [Tryz.ntmps121, List.size_toArray, List.length_cons, List.length_nil, Nat.reduceAdd, Nat.reduceSub, Array.replicate_succ, Array.replicate_zero, List.push_toArray, List.append_toArray, List.nil_append, List.cons_append]
 gi_wp2_with fail
 have KL := Ho.mk ((Blk.new w [.slice A X.length c] 22).old (.cells #[.slice none 0 0] 22))
 have KO := Ho.mk (Blk.new (w.alloc (.cells #[.slice A X.length c] 22)) [.slice none 0 0] 22)
 have HB := Ho.mk (((Bel.refl w).alloc (.cells #[.slice A X.length c] 22)).alloc (.cells #[.slice none 0 0] 22))
 have HS : ((w.alloc (.cells #[.slice A X.length c] 22)).alloc (.cells #[.slice none 0 0] 22)).heap.size = w.heap.size + 2 := by simp only [World.size_alloc]
 simp only [World.size_alloc] at KO
 generalize (w.alloc (.cells #[.slice A X.length c] 22)).alloc (.cells #[.slice none 0 0] 22) = w5 at *
 refine rangeB (α := Int) (encs := encI) (bs := [w.heap.size + 1]) (N := ys.length) (Bd := False) (Px := fun pre x _ => ys[pre.length]? = some x) (S := fun zs => zs = ys) (Sp := fun _ => True)
  (by omega) rfl eg (fun x => by rfl) (by intro k hk; simp at hk; omega) ?_
  (fun pre O W => ∃ v, IP w w.heap.size (w.heap.size + 1) (.slice A X.length c) pre X O W v) (fun _ _ _ _ => False) (fun h => h.elim) (ip_abides (Nat.le_refl _) (by omega)) (fun _ _ _ _ _ _ h => h.elim) ?_
  (fun pre x a' W => a' = { tmps := #[.slice A X.length c, .func (.func gf) #[] lb, .pointer (some ⟨w.heap.size, 0, none⟩), undef, .slice none 0 0, .pointer (some ⟨w.heap.size + 1, 0, none⟩), .int .i64 x, .func (.func gf) #[] lb, .int .i64 x, undef, undef, undef, undef, undef, undef, undef, undef], defers := [] } ∧ ys[pre.length]? = some x) ?_ ?_ ?_ ?_ ?_
 ·intro W hW hBW
  exact HW.out _ _ W _ (by omega) (HB.out.trans hBW) (fun k hk => by simp at hk; omega)
 ·exact ⟨_, HB.out, by omega, by simp, by simp, KL.out, KO.out, Og.nil _, by simp [Value.ownBlock]⟩
 ·rintro pre x a' A r o hr h; exact h
 ·rintro l pre O x W K ⟨v, hI⟩ hsz hx1 hK
  simp [encI]
  gi_wp2
  exact hK _ _ (Bel.refl W) ⟨rfl, hx1⟩
 ·-- a round
  rintro l pre O x a' W ⟨v, hI⟩ hlen hsz ⟨rfl, hx1⟩ hO hlO
  obtain ⟨hx0, hxl⟩ := HY.out x (List.mem_of_getElem? hx1)
  have hR := hI.row
  obtain ⟨Z, hZ⟩ : ∃ Z, Z = pre.map (fun i => nthN X i.toNat) := ⟨_, rfl⟩
  rw [← hZ] at hR
  obtain ⟨sA, sc, rfl⟩ := hR.slice
  have HR := Ho.mk hR
  have HZ := Ho.mk hZ
  have lZ : Z.length ≤ 100000 := by rw [hZ, List.length_map]; omega
  clear hR hZ
  obtain ⟨A1, c1, e1, hc1, hc2, hfr, _⟩ := HX.out.out
  cases e1
  obtain ⟨ad, _, rfl, hcell, r, rfl, hr1, hr2⟩ := hfr.cell x.toNat (by omega)
  have y5 := hI.var.cell (i := 0) rfl
  have y2 := hI.lst.cell (i := 0) rfl
  have yx := hI.bel.cell hcell
  have zx : x = (x.toNat : Int) := by omega
  have HI := Ho.mk hI
  have HC := Ho.mk (And.intro hr1 hr2)
  have HX1 := Ho.mk hx1
  clear hI hcell hr1 hr2 hx1 hfr
  generalize x.toNat = xn at *
  subst zx
  refine wpIn_block ?_
  refine Yi.late_round 6 (S := fun w' => Bel W w') (by kernel_rfl) (by intro o ho c e; simp at ho; rcases ho with rfl | rfl | rfl | rfl | rfl | rfl | rfl | rfl <;> cases e) (by rintro ⟨_, _, h⟩; exact h) (Bel.refl _).drew (fun hHeld => ?_)
  (try dsimp only at hHeld)
  refine I7.kl (i := 0) (v := ?_) hHeld (fun w' hSw => ?_) ?_
  rotate_left
  ·(have z0 := hSw.cell y5; go_simp; try (with_reducible rfl))
  refine I7.kl (i := 1) (v := ?_) hHeld (fun w' hSw => ?_) ?_
  rotate_left
  ·(have z0 := hSw.cell y2; go_simp; try (with_reducible rfl))
  refine I7.kt (i := 2) hHeld ?_
  refine I7.kt (i := 3) hHeld ?_
  refine I7.kl (i := 4) (v := ?_) hHeld (fun w' hSw => ?_) ?_
  rotate_left
  ·(have z0 := hSw.cell yx; go_simp; try (with_reducible rfl))
  try simp only [Act.put, List.setIfInBounds_toArray, List.set_cons_zero, List.set_cons_succ]
  refine I7.kc (i := 5) (fun K hK => ?_)
  go_simp
  refine hK.out _ _ (Bel.alloc hHeld _) (fun hHeld => ?_)
  clear hK K
  try simp only [Act.put, List.setIfInBounds_toArray, List.set_cons_zero, List.set_cons_succ]
  have z9 : (W.alloc (.cells #[.float .f64 r] 50)).drew.cell? ⟨W.heap.size, 0, none⟩ = some (.float .f64 r) := (Blk.new W [.float .f64 r] _).cell (i := 0) rfl
  have hD : Bel W (W.alloc (.cells #[.float .f64 r] 50)).drew := ((Bel.refl W).alloc _).drew
  have hsD : (W.alloc (.cells #[.float .f64 r] 50)).drew.heap.size = W.heap.size + 1 := by show (World.alloc W _).heap.size = _; rw [World.size_alloc]
  have al : ∀ k, k < W.heap.size → (W.alloc (.cells #[.float .f64 r] 50)).drew.heap[k]? = W.heap[k]? := fun k hk => hD.block hk
  generalize (W.alloc (.cells #[.float .f64 r] 50)).drew = WD at *
  refine I7.ke (i := 6) (fun K hK => ?_)
  refine wp_appF _ _ rfl (HR.out.keep (fun g hg => al g (HR.out.lt hg))) rfl rfl z9 HC.out.1 lZ ?_
  intro v' w' ho he hb hat
  obtain ⟨Z2, hZ2⟩ : ∃ Z2, Z2 = Z ++ [cn r] := ⟨_, rfl⟩
  rw [← hZ2] at ho
  have HZ2 := Ho.mk hZ2
  clear hZ2
  obtain ⟨tA, tc, rfl⟩ := ho.slice
  have hbig := HI.out.big
  have low : ∀ k, k < w.heap.size + 4 → k < W.heap.size → w'.heap[k]? = W.heap[k]? := fun k h1 h2 => by
   rcases hb k (by omega) with q | ⟨q, _⟩
   ·exact q.trans (al k h2)
   ·have := (HI.out.far k q).2; omega
  have KV : Ho (Blk w' (w.heap.size + 1) 22 [.slice sA Z.length sc]) := ⟨blk_keep HI.out.var (low _ (by omega) (by omega))⟩
  have HE := Ho.mk (And.intro ho (And.intro he (And.intro hb (And.intro hat (And.intro low al)))))
  have y0 := KV.out.cell (i := 0) rfl
  have x0 := KV.out.free 0
  refine hK.out _ _ ?_
  clear hK K ho he hb hat low al y5 y2 yx z9
  try simp only [Act.put, List.setIfInBounds_toArray, List.set_cons_zero, List.set_cons_succ]
  refine I7.ke2 (i := 7) (fun K hK => ?_)
  go_simp
  refine hK.out _ _ ?_
  clear hK K
  refine wpAny_done (by kernel_rfl) ?_ _
  obtain ⟨ho, he, hb, hat, low, al⟩ := HE.out
  have hI := HI.out
  generalize hv : Value.slice tA Z2.length tc = v2 at *
  have nv : NI W (w.heap.size + 1) := ni_blk hI.var (by intro i z hz; cases i <;> simp at hz)
  have ne : ∀ k, k ≠ w.heap.size + 1 → (w'.setCell ⟨w.heap.size + 1, 0, none⟩ v2).heap[k]? = w'.heap[k]? := fun k hk => Below.heap_setCell _ _ _ _ (by first | exact hk | exact Ne.symm hk)
  have sz : w'.heap.size = (w'.setCell ⟨w.heap.size + 1, 0, none⟩ v2).heap.size := by simp [World.setCell]
  have hY : Yd [w.heap.size + 1] O (w5.heap.size + 2) W (w'.setCell ⟨w.heap.size + 1, 0, none⟩ v2) := ⟨he.1.trans hD.out.os, he.2.1.trans hD.out.tape, he.2.2.1.trans hD.out.output, by rw [← sz]; omega, fun k hk => by
   by_cases e : k = w.heap.size + 1
   ·subst e
    exact .inr ⟨.inl nv, fun q => by have := hI.own _ q; omega, .inl (by simp)⟩
   ·rcases hb k (by omega) with q | ⟨q1, q2⟩
    ·exact .inl ((ne k e).trans (q.trans (al k hk)))
    ·exact .inr ⟨.inl (ni_same (al k hk).symm q2), (hI.far k q1).1, .inr (by have := (hI.far k q1).2; omega)⟩⟩
  have fr : ∀ g, v2.ownBlock = some g → g ∉ O ∧ w.heap.size + 1 + 3 ≤ g := fun g hg => by
   rcases hat with q | q
   ·exact hI.far g (q ▸ hg)
   ·rw [hg] at q
    cases q
    exact ⟨fun q => by have := hI.top _ q; omega, by omega⟩
  refine ⟨hY, v2, ?_⟩
  refine ⟨⟨⟨hY.os.trans hI.bel.out.os, hY.tape.trans hI.bel.out.tape, hY.output.trans hI.bel.out.output, Nat.le_trans hI.bel.size hY.size, fun k hk => ?_⟩⟩, by have := hY.size; omega, hI.own, fun k hk => Nat.lt_of_lt_of_le (hI.top k hk) hY.size, blk_keep hI.lst ((ne _ (by omega)).trans (low _ (by omega) (by omega))), KV.out.set 0 _, ?_, fr⟩
  ·have := hI.bel.size
   exact (ne k (by omega)).trans ((low k (by omega) (by omega)).trans (hI.bel.out.block k hk))
  ·rw [List.map_append, ← HZ.out, List.map_cons, List.map_nil, Int.toNat_natCast, ← HC.out.2, ← HZ2.out]
   exact ho.keep fun g hg => ne g (by have := (fr g hg).2; omega)
 ·-- all have come
  rintro zs O W hsz rfl ⟨v, hI⟩ hd
  have y0 := hI.var.cell (i := 0) rfl
  have HI := Ho.mk hI
  clear hI
  gi_wp2_with fail
  refine leaveAny hd (bodyPost_ret (results_tmp rfl _ _ _) rfl ?_)
  have hfar := HI.out.far
  have hbl := HI.out.bel
  refine ⟨v, rfl, ⟨HI.out.row.keep fun g hg => World.putObj_heap_other (by have := (hfar g hg).2; omega), fun g hg => by have := (hfar g hg).2; omega⟩, ⟨⟨hbl.out.os, hbl.out.tape, hbl.out.output, by have := hbl.size; simpa [World.putObj] using this, fun j hj => (World.putObj_heap_other (by omega)).trans (hbl.out.block j hj)⟩⟩⟩
 ·rintro c pre O W hsz _ hI; exact hI.elim
def idx (X : List Nat) (ys : List Int) : List Nat := ys.map fun i => nthN X i.toNat
theorem idx_even (X : List Nat) : idx X (steps 0 2 ((X.length + 1) / 2)) = M2.evenG opsN X := by
 apply List.ext_getElem (by simp [idx, steps, M2.evenG])
 intro i h1 h2
 simp only [idx, steps, M2.evenG, List.getElem_map, List.getElem_range]
 show nthN X _ = nthN X _
 congr 1; omega
theorem idx_odd (X : List Nat) : idx X (steps 1 2 (X.length / 2)) = M2.oddG opsN X := by
 apply List.ext_getElem (by simp [idx, steps, M2.oddG])
 intro i h1 h2
 simp only [idx, steps, M2.oddG, List.getElem_map, List.getElem_range]
 show nthN X _ = nthN X _
 congr 1; omega
theorem steps_mem {fr by' : Int} {m : Nat} {i : Int} (h : i ∈ steps fr by' m) : ∃ k : Nat, k < m ∧ i = fr + k * by' := by
 simp only [steps, List.mem_map, List.mem_range] at h
 obtain ⟨k, h1, h2⟩ := h
 exact ⟨k, h1, h2.symm⟩
def MakesG (w : World) (Z : List Nat) (e : Ending) (w' : World) : Prop := ∃ A c, e = .returned (.slice A Z.length c) ∧ (Og w' (.slice A Z.length c) Z ∧ ∀ g, (Value.slice A Z.length c).ownBlock = some g → w.heap.size ≤ g) ∧ Bel w w'
def MakesF (w : World) (Z : List Nat) (e : Ending) (w' : World) : Prop := ∃ A c, e = .returned (.slice A Z.length c) ∧ RowF w' w.heap.size (.slice A Z.length c) Z ∧ Bel w w'
theorem dEven {A : Option Addr} {c : Nat} {X : List Nat} (w : World) (hx : In w (.slice A X.length c) X) (hl : X.length ≤ 100000) :
  Calls Tryz.prog 78 #[.slice A X.length c] w (MakesG w (M2.evenG opsN X)) := by
 have HX := Ho.mk hx
 have P := Ho.mk (dPlacesW (fr := 0) (by' := 2) (en := (X.length : Int)) (m := (X.length + 1) / 2) w (by decide) (by omega) (by omega) (by decide) (fun k hk => by omega) (by omega))
 clear hx
 go_enter Tryz.func78, Tryz.ntmps78
 go_wp2_with fail
 (with_reducible refine P.out.mono ?_); rintro e w1 ⟨lb, rfl, hW, b1⟩
 have HW := Ho.mk hW
 have HB := Ho.mk b1
 clear P hW b1
 have C := Ho.mk (dPicked w1 (HX.out.bel HB.out) hl (fun i hi => by obtain ⟨k, h1, h2⟩ := steps_mem hi; omega) (by rw [steps_len]; omega) HW.out (fun args w => rfl))
 go_wp2_with fail
 (with_reducible refine C.out.mono ?_); rintro e w2 ⟨v, rfl, r, b2⟩
 have R := Ho.mk r
 have B2 := Ho.mk b2
 clear C r b2
 go_wp2
 go_ret
 have r := R.out
 rw [show (List.map (fun i => nthN X i.toNat) (steps 0 2 ((X.length + 1) / 2))) = (M2.evenG opsN X) from idx_even X] at r
 obtain ⟨A', c', e⟩ := r.1.slice
 subst e
 exact ⟨A', c', rfl, ⟨r.1, fun g hg => Nat.le_trans HB.out.size (r.2 g hg)⟩, HB.out.trans B2.out⟩
theorem dOdd {A : Option Addr} {c : Nat} {X : List Nat} (w : World) (hx : In w (.slice A X.length c) X) (hl : X.length ≤ 100000) :
  Calls Tryz.prog 79 #[.slice A X.length c] w (MakesG w (M2.oddG opsN X)) := by
 have HX := Ho.mk hx
 have P := Ho.mk (dPlacesW (fr := 1) (by' := 2) (en := (X.length : Int)) (m := X.length / 2) w (by decide) (by omega) (by omega) (by decide) (fun k hk => by omega) (by omega))
 clear hx
 go_enter Tryz.func79, Tryz.ntmps79
 go_wp2_with fail
 (with_reducible refine P.out.mono ?_); rintro e w1 ⟨lb, rfl, hW, b1⟩
 have HW := Ho.mk hW
 have HB := Ho.mk b1
 clear P hW b1
 have C := Ho.mk (dPicked w1 (HX.out.bel HB.out) hl (fun i hi => by obtain ⟨k, h1, h2⟩ := steps_mem hi; omega) (by rw [steps_len]; omega) HW.out (fun args w => rfl))
 go_wp2_with fail
 (with_reducible refine C.out.mono ?_); rintro e w2 ⟨v, rfl, r, b2⟩
 have R := Ho.mk r
 have B2 := Ho.mk b2
 clear C r b2
 go_wp2
 go_ret
 have r := R.out
 rw [show (List.map (fun i => nthN X i.toNat) (steps 1 2 (X.length / 2))) = (M2.oddG opsN X) from idx_odd X] at r
 obtain ⟨A', c', e⟩ := r.1.slice
 subst e
 exact ⟨A', c', rfl, ⟨r.1, fun g hg => Nat.le_trans HB.out.size (r.2 g hg)⟩, HB.out.trans B2.out⟩
end Y3
namespace Y4
open Ieee Go Go.RowKit Go.Proofs Go.Proofs.YtnbdoidccacdnaaGreatDoor Ow Dt Gp I0 U0 W0 S4 S6 P0 M0 M1 M3 W4 W5 V2 P4 Y3 Yh
open Go.Proofs.YtnbdoidccacdnaaGreatDoor.V1 (NI St ni_same ni_loop St.refl St.of_bel blk_keep ni_blk put_st)
open Go.Proofs.YtnbdoidccacdnaaGreatDoor.C6 (leaveAny)
open Go.Proofs.YtnbdoidccacdnaaGreatDoor.Pg (In)
attribute [local go_sem ↓] Go.wp_at_zero Go.wp_at_succ
attribute [local go_sem] Oper.semAt_some
theorem dLogR {n : Nat} {fn : Nat} (hfn : fn = 77) (w : World) (h : n < 1100) (T : Tab w) : Calls Tryz.prog fn #[.int .i64 (n : Int)] w fun e w' => e = .returned (.int .i64 (logI n)) ∧ w = w' := by
 have TT := Ho.mk T
 clear T
 subst hfn
 obtain ⟨k, hk⟩ : ∃ k : Int, k = (n : Int) := ⟨_, rfl⟩
 by_cases h0 : n = 0
 ·subst h0
  have e : logI 0 = -1 := by decide
  rw [e]
  go_enter Tryz.func77, Tryz.ntmps77
  go_wp2
  go_ret
  exact ⟨rfl, rfl⟩
 ·obtain ⟨f1, f2⟩ := log_fact h h0
  have F2 := Ho.mk f2
  have hk0 : 0 < k := by omega
  have hk1 : k < 1100 := by omega
  by_cases hp : 2 ^ Nat.log2 n = n
  ·have hb : bits .and .i64 k (k - 1) = 0 := by rw [hk]; exact f1.2 hp
   have HE := Ho.mk (show logI n = if n ≤ 1024 then (Nat.log2 n : Int) else -1 by unfold logI; by_cases c : n ≤ 1024 <;> simp [h0, hp, c])
   have HT := Ho.mk (f2 hp)
   rw [HE.out, ← hk]
   have HK := Ho.mk hk
   clear f1 f2 hp h0 hk
   by_cases c : 1024 < k
   ·rw [if_neg (by have := HK.out; omega)]
    go_enter Tryz.func77, Tryz.ntmps77
    go_wp2
    go_ret
    exact ⟨rfl, rfl⟩
   ·rw [if_pos (by have := HK.out; omega)]
    go_enter Tryz.func77, Tryz.ntmps77
    go_wp2_with (go_at_call 120; (with_reducible refine (E1.tz_callsI _ _ (by omega) (by omega) TT.out).mono ?_); rintro e w' ⟨rfl, rfl⟩)
    go_ret
    refine ⟨?_, rfl⟩
    rw [show k.toNat = n by have := HK.out; omega, HT.out]; rfl
  ·have hb : ¬ bits .and .i64 k (k - 1) = 0 := by rw [hk]; exact fun e => hp (f1.1 e)
   have HE : logI n = -1 := by unfold logI; rw [if_neg (fun q => hp q.2.1)]
   rw [HE, ← hk]
   clear f1 f2 hp h0 hk HE F2
   go_enter Tryz.func77, Tryz.ntmps77
   go_wp2
   go_ret
   exact ⟨rfl, rfl⟩
theorem then_falseW {P : Program} {c : Code} {K : Act → World → Prop} {Q : Exit → Act → World → Prop} {a : Act} {w : World} (h : c.wp P (Exit.then K (fun _ _ _ => False)) a w) : c.wp P (Exit.then K Q) a w :=
 (wpIn_wide (n := 0)).1 (J3.then_false (wpIn_wide.2 h))
theorem Fz.at2 {w : World} {b : Nat} {X : List Nat} (K : Fz w b X) (i : Nat) (hi : i < X.length) : ∃ v, w.cell? ⟨b, i, none⟩ = some v := by obtain ⟨r, h, _⟩ := K.at_ hi; exact ⟨_, h⟩
theorem dPut {b n c k r s : Nat} {X : List Nat} (w : World) (K : Fk w b X) (hk : 2 * k + 1 < n) (hX : X.length = n) (hn : n ≤ 100000) (hr : r < 2 * sgnW) (hs : s < 2 * sgnW) :
  Calls Tryz.prog 80 #[.slice (some ⟨b, 0, none⟩) n c, .int .i64 (k : Int), .float .f64 r, .float .f64 s] w
   fun e w' => e = .returned (.tuple #[]) ∧ Fk w' b ((X.set (2 * k) (cn r)).set (2 * k + 1) (cn s)) ∧ Gr b w w' := by
 have K2 := K.set (2 * k) hr rfl
 have K3 := K2.set (2 * k + 1) hs rfl
 obtain ⟨_, y0⟩ := Fz.at2 K.fz (2 * k) (by omega)
 have x0 := K.free (2 * k)
 obtain ⟨_, y1⟩ := Fz.at2 K2.fz (2 * k + 1) (by rw [List.length_set]; omega)
 have x1 := K2.free (2 * k + 1)
 have G := Ho.mk (((Gr.refl b w).set (2 * k) (.float .f64 r)).set (2 * k + 1) (.float .f64 s))
 have K3 := Ho.mk K3
 have e1 : (2 * (k : Int)).toNat = 2 * k := by omega
 have e2 : (2 * (k : Int) + 1).toNat = 2 * k + 1 := by omega
 clear K K2
 go_enter Tryz.func80, Tryz.ntmps80
 go_wp2_with fail
 go_end0
 exact ⟨rfl, K3.out, G.out⟩
theorem hp_abides {W0 : World} {L : List Ent} {B : Nat} (hL : ∀ e ∈ L, e.b < B) (hB : W0.heap.size ≤ B) : V1.Abides (fun O W => Hp W0 W L ∧ B ≤ W.heap.size ∧ ∀ k ∈ O, B ≤ k ∧ k < W.heap.size) := by
 rintro O A O' C ⟨h, hb, ho⟩ hs h1 h2
 have sz := hs.size
 have same : ∀ k, k < B → C.heap[k]? = A.heap[k]? := fun k hk => (hs.block k (by omega)).elim id (fun q => by have := (ho k q.1).1; omega)
 exact ⟨⟨⟨⟨hs.os.trans h.bel.out.os, hs.tape.trans h.bel.out.tape, hs.output.trans h.bel.out.output, Nat.le_trans h.bel.size sz, fun k hk => (same k (by omega)).trans (h.bel.out.block k hk)⟩⟩, h.ge, h.nd, fun e he => (h.ok e he).same (same e.b (hL e he))⟩, by omega,
  fun k hk => (h2 k hk).elim (fun q => by have := ho k q; omega) (fun q => by omega)⟩
theorem ni_fk {w : World} {b : Nat} {X : List Nat} (h : Fk w b X) : NI w b := by
 obtain ⟨cs, h1, h2, h3⟩ := h.out
 refine ni_blk h1 ?_
 intro i z hz
 obtain ⟨r, e, _⟩ := h3 i _ hz
 cases e
theorem yd_gr {b B : Nat} {bs O : List Nat} {W W' : World} {X : List Nat} (g : Gr b W W') (h : Fk W b X) (hb : b ∈ bs) (hO : b ∉ O) : Yd bs O B W W' :=
 ⟨g.os, g.tape, g.output, g.size, fun k hk => by
  by_cases e : k = b
  ·subst e; exact .inr ⟨.inl (ni_fk h), hO, .inl hb⟩
  ·exact .inl (g.block k hk e)⟩
structure E4 where
 k : Nat
 a : Nat
 b : Nat
 c : Nat
 d : Nat
def encE (x : E4) : Array Value := #[.int .i64 (x.k : Int), .agg #[.float .f64 x.a, .float .f64 x.b, .float .f64 x.c, .float .f64 x.d]]
structure E4.Ok (X Y : List Nat) (m : Nat) (x : E4) : Prop where
 lt : (x.a < 2 * sgnW ∧ x.b < 2 * sgnW) ∧ (x.c < 2 * sgnW ∧ x.d < 2 * sgnW)
 cl : (cn x.a = nthN X x.k ∧ cn x.b = nthN Y x.k) ∧ (cn x.c = nthN X (m - x.k) ∧ cn x.d = nthN Y (m - x.k))
theorem cellS {ks : List Nat} {B : Nat} {w w' : World} {p : Addr} {v : Value} (h : ∀ k, k < B → k ∉ ks → w'.heap[k]? = w.heap[k]?) (hb : p.block < B) (hn : p.block ∉ ks) (hc : w.cell? p = some v) : w'.cell? p = some v := by
 unfold World.cell? at hc ⊢
 rw [h _ hb hn]; exact hc
def Ends (w : World) (no : List Nat) (lb : Array Value) (X Y : List Nat) (m : Nat) : Prop := ∀ (n l : Nat) (W : World) (ks : List Nat), 1 ≤ n → Bel w W → (∀ k ∈ ks, k ∉ no) →
 SeqB Tryz.prog n l 132 lb encE ks (m - 1) (fun pre x _ => x.k = pre.length + 1 ∧ x.Ok X Y m) (fun zs => zs.length = m - 1) (fun _ => True) W
theorem ends1 {m c c' : Nat} {X Y : List Nat} (w : World) {bz b b' : Nat} (KZ : Blk w bz 24 [.slice (some ⟨b, 0, none⟩) m c, .slice (some ⟨b', 0, none⟩) m c']) (FX : Fz w b X) (FY : Fz w b' Y) (hX : X.length = m) (hY : Y.length = m) (hm : 1 ≤ m) (hm2 : m ≤ 100000) :
  Ends w [bz, b, b'] #[.pointer (some ⟨bz, 0, none⟩)] X Y m := by
 intro n l W ks hn hW hks J Jx _ hJ hJx hY' h0
 have KZ := Ho.mk (KZ.bel hW)
 have FX := Ho.mk (FX.bel hW)
 have FY := Ho.mk (FY.bel hW)
 have n1 : bz ∉ ks := fun q => hks _ q (by simp)
 have n2 : b ∉ ks := fun q => hks _ q (by simp)
 have n3 : b' ∉ ks := fun q => hks _ q (by simp)
 have NK := Ho.mk (And.intro n1 (And.intro n2 n3))
 have HX := Ho.mk hX
 have HYl := Ho.mk hY
 have HY := Ho.mk hY'
 have H0 := Ho.mk h0
 clear hY' h0 n1 n2 n3 hks hW hX hY
 have y0 := KZ.out.cell (i := 0) rfl
 refine callsIn_wide.2 ?_
 go_enter Tryz.func132, Tryz.ntmps132
 refine (wpIn_wide (n := n)).1 ?_
 gi_wp2_with fail
 clear y0
 gi_loopw [4] (fun i wr => ∃ (k : Nat) (pre : List E4) (O : List Nat), i = .int .i64 (k : Int) ∧ Ho (pre.length + 1 = k) ∧ 1 ≤ k ∧ k ≤ m ∧ Ho (J pre O wr) ∧ Ho (Wk ks W wr) ∧ Ho (∀ q ∈ O, W.heap.size ≤ q)) (fun i _ => m - (intOf i).toNat)
 case atStart => exact ⟨1, [], [], rfl, ⟨rfl⟩, by omega, by omega, H0, ⟨Wk.refl _ _⟩, ⟨by simp⟩⟩
 case round =>
  obtain ⟨k, pre, O, rfl, hp, hk1, hk, hj, hw, hO⟩ := hrel
  rcases Nat.lt_or_ge k m with hlt | hge
  ·have KR := Ho.mk (hw.out.blk NK.out.1 KZ.out)
   obtain ⟨cx, kx, fx⟩ := FX.out.out
   obtain ⟨cy, ky, fy⟩ := FY.out.out
   have GX := Ho.mk (show Fz wr b X from ⟨cx, hw.out.blk NK.out.2.1 kx, fx⟩)
   have GY := Ho.mk (show Fz wr b' Y from ⟨cy, hw.out.blk NK.out.2.2 ky, fy⟩)
   clear kx fx ky fy
   have y0 := KR.out.cell (i := 0) rfl
   have y1 := KR.out.cell (i := 1) rfl
   obtain ⟨r0, x0, l0, c0⟩ := GX.out.at_ (i := k) (by rw [HX.out]; exact hlt)
   obtain ⟨r1, x1, l1, c1⟩ := GY.out.at_ (i := k) (by rw [HYl.out]; exact hlt)
   obtain ⟨r2, x2, l2, c2⟩ := GX.out.at_ (i := m - k) (by rw [HX.out]; omega)
   obtain ⟨r3, x3, l3, c3⟩ := GY.out.at_ (i := m - k) (by rw [HYl.out]; omega)
   have OK := Ho.mk (show (E4.mk k r0 r1 r2 r3).Ok X Y m from ⟨⟨⟨l0, l1⟩, l2, l3⟩, ⟨c0, c1⟩, c2, c3⟩)
   clear l0 l1 l2 l3 c0 c1 c2 c3
   have es : IntKind.i64.wrap ((m : Int) - (k : Int)) = ((m - k : Nat) : Int) := by rw [IntKind.wrap_i64]; omega
   have es2 : m - k < m := by omega
   have JD := Ho.mk (hJ _ _ _ O _ hj.out (St.of_bel (Bel.refl wr).drew _) (fun _ h => h) (fun _ h => .inl h))
   obtain ⟨fn, tmps, assign, body, hy, hR⟩ := HY.out pre O (E4.mk k r0 r1 r2 r3) wr.drew JD.out (by have := hp.out; omega) ⟨hp.out.symm, OK.out⟩ hO.out hw.out.size
   dsimp only [encE] at hy
   have HR := Ho.mk hR
   clear hR
   refine wpIn_wide.2 ?_
   go_upto_region 4 with fail
   refine (wpIn_wide (n := n)).1 ?_
   have BZ := Ho.mk (And.intro KZ.out.lt NK.out.1)
   have BX := Ho.mk (And.intro FX.out.lt NK.out.2.1)
   have BY := Ho.mk (And.intro FY.out.lt NK.out.2.2)
   refine Yi.held_wide (S := fun w' => ∀ k, k < W.heap.size → k ∉ ks → w'.heap[k]? = wr.heap[k]?) (by kernel_rfl) (fun _ _ _ => rfl) (fun hHeld => ?_)
   (try dsimp only at hHeld)
   refine Yi.wt (i := 0) hHeld ?_
   refine Yi.wt (i := 1) hHeld ?_
   refine Yi.wt (i := 2) hHeld ?_
   refine Yi.wl (i := 3) (v := ?_) hHeld (fun w' hSw => ?_) ?_
   rotate_left
   ·(have z0 := cellS hSw BZ.out.1 BZ.out.2 y0; go_simp; try (with_reducible rfl))
   refine Yi.wt (i := 4) hHeld ?_
   refine Yi.wt (i := 5) hHeld ?_
   refine Yi.wl (i := 6) (v := ?_) hHeld (fun w' hSw => ?_) ?_
   rotate_left
   ·(have z0 := cellS hSw BX.out.1 BX.out.2 x0; go_simp; try (with_reducible rfl))
   refine Yi.wt (i := 7) hHeld ?_
   refine Yi.wl (i := 8) (v := ?_) hHeld (fun w' hSw => ?_) ?_
   rotate_left
   ·(have z0 := cellS hSw BZ.out.1 BZ.out.2 y1; go_simp; try (with_reducible rfl))
   refine Yi.wt (i := 9) hHeld ?_
   refine Yi.wt (i := 10) hHeld ?_
   refine Yi.wl (i := 11) (v := ?_) hHeld (fun w' hSw => ?_) ?_
   rotate_left
   ·(have z0 := cellS hSw BY.out.1 BY.out.2 x1; go_simp; try (with_reducible rfl))
   refine Yi.wt (i := 12) hHeld ?_
   refine Yi.wl (i := 13) (v := ?_) hHeld (fun w' hSw => ?_) ?_
   rotate_left
   ·(have z0 := cellS hSw BZ.out.1 BZ.out.2 y0; go_simp; try (with_reducible rfl))
   refine Yi.wt (i := 14) hHeld ?_
   refine Yi.wt (i := 15) hHeld ?_
   refine Yi.wt (i := 16) hHeld ?_
   refine Yi.wt (i := 17) hHeld ?_
   refine Yi.wl (i := 18) (v := ?_) hHeld (fun w' hSw => ?_) ?_
   rotate_left
   ·(have z0 := cellS hSw BX.out.1 BX.out.2 x2; go_simp; try (with_reducible rfl))
   refine Yi.wt (i := 19) hHeld ?_
   refine Yi.wl (i := 20) (v := ?_) hHeld (fun w' hSw => ?_) ?_
   rotate_left
   ·(have z0 := cellS hSw BZ.out.1 BZ.out.2 y1; go_simp; try (with_reducible rfl))
   refine Yi.wt (i := 21) hHeld ?_
   refine Yi.wt (i := 22) hHeld ?_
   refine Yi.wt (i := 23) hHeld ?_
   refine Yi.wt (i := 24) hHeld ?_
   refine Yi.wl (i := 25) (v := ?_) hHeld (fun w' hSw => ?_) ?_
   rotate_left
   ·(have z0 := cellS hSw BY.out.1 BY.out.2 x3; go_simp; try (with_reducible rfl))
   refine Yi.wt (i := 26) hHeld ?_
   try simp only [Act.put, List.setIfInBounds_toArray, List.set_cons_zero, List.set_cons_succ]
   refine Yi.wc (i := 27) (fun K hK => ?_)
   refine ⟨fun _ _ => trivial, ?_⟩
   rw [show Fence.wide.round = none from rfl, Oper.semAt_none]
   go_simp
   refine HR.out.mono ?_
   have keepS : ∀ w4, Yd ks O W.heap.size wr.drew w4 → ∀ k, k < W.heap.size → k ∉ ks → w4.heap[k]? = wr.heap[k]? := fun w4 g k h1 h2 => by
    rcases g.block k (Nat.lt_of_lt_of_le h1 hw.out.size) with q | ⟨_, _, q | q⟩
    ·exact q
    ·exact (h2 q).elim
    ·omega
   rintro e w4 (⟨rfl, hJ4, hY4⟩ | ⟨rfl, hJ4, hY4⟩)
   ·have HJ := Ho.mk hJ4
    have HW := Ho.mk ((hw.out.bel (Bel.refl wr).drew).yd hY4)
    have HS := keepS _ hY4
    clear hJ4 hY4 hy keepS
    refine hK.out _ _ HS (fun hHeld => ?_)
    clear hK K HS
    refine Yi.wt (i := 28) hHeld ?_
    refine Yi.wdone (by kernel_rfl) ?_ _
    go_wp2_with fail
    go_roundw
    case rel => exact ⟨k + 1, _, O, rfl, ⟨by have := hp.out; rw [List.length_append, List.length_singleton]; omega⟩, by omega, by omega, HJ, HW, hO⟩
    case measure => simp [intOf]; omega
   ·have HJ := Ho.mk hJ4
    have HS := keepS _ hY4
    clear hJ4 hY4 hy keepS
    refine hK.out _ _ HS (fun hHeld => ?_)
    clear hK K HS
    refine Yi.wt (i := 28) hHeld ?_
    refine Yi.wdone (by kernel_rfl) ?_ _
    go_wp2_with fail
    refine bodyPost_ret (results_none rfl _ _ _) rfl ?_
    exact ⟨⟨_, rfl⟩, .inr ⟨_, O, trivial, HJ.out, hO.out⟩⟩
  ·obtain rfl : k = m := by omega
   gi_wp2
   go_end0
   first | exact ⟨⟨_, rfl⟩, .inl ⟨_, O, by have := hp.out; omega, hj.out, hO.out⟩⟩
theorem dEndsP {A B : Option Addr} {m m' c c' : Nat} (w : World) :
  Calls Tryz.prog 84 #[.agg #[.slice A m c, .slice B m' c']] w
   (fun e w' => e = .returned (.func (.func 132) #[] #[.pointer (some ⟨w.heap.size, 0, none⟩)]) ∧ w' = w.alloc (.cells #[.slice A m c, .slice B m' c'] 24)) := by
 go_enter Tryz.func84, Tryz.ntmps84
 go_wp2
 refine bodyPost_ret (results_tmp rfl _ _ _) rfl ?_
 simp
end Y4
namespace Po
open Ieee Go Gp Gq Gr G9 U0 W0 W1 W2 M0 M1 M2 M3 Pc
def nmB (x : Nat) : Bool := decide (x < 2 * sgnW) && (decide (frung x < infR) && (cn x == x))
theorem nm_of {x : Nat} (h : nmB x = true) : Nm x := by
 unfold nmB at h
 simp only [Bool.and_eq_true, decide_eq_true_eq, beq_iff_eq] at h
 exact ⟨h.1, h.2.1, h.2.2⟩
def twp (p q k : Nat) : Nat × Nat := tabW p (k * 2 ^ (p - (q + 1)))
end Po
namespace Y1
open Ieee Go Gp Gq Gr G9 U0 W0 W1 W2 M0 M1 M2 M3 Pc Po
section
variable {α : Type} (O : Ops α)
def binG (w : Nat × Nat) (x0 x1 x2 x3 : α) : α × α :=
 let t := cturn O (O.mul (O.add x1 x3) (O.lit halfW)) (O.mul (O.add (O.neg x0) x2) (O.lit halfW)) (O.lit w.1) (O.lit w.2)
 (O.add (O.mul (O.add x0 x2) (O.lit halfW)) t.1, O.add (O.mul (O.add x1 (O.neg x3)) (O.lit halfW)) t.2)
def packAt (tab : Nat → Nat × Nat) (m : Nat) (z : List α × List α) (i : Nat) : α :=
 if i = 0 then O.add (nthG O z.1 0) (nthG O z.2 0)
 else if i = 1 then O.sub (nthG O z.1 0) (nthG O z.2 0)
 else if i % 2 = 0 then (binG O (tab (i / 2)) (nthG O z.1 (i / 2)) (nthG O z.2 (i / 2)) (nthG O z.1 (m - i / 2)) (nthG O z.2 (m - i / 2))).1
 else (binG O (tab (i / 2)) (nthG O z.1 (i / 2)) (nthG O z.2 (i / 2)) (nthG O z.1 (m - i / 2)) (nthG O z.2 (m - i / 2))).2
end
def rfftZ (p : Nat) (X : List Nat) : List Nat × List Nat := intoN (p - 1) (evenG opsN X, oddG opsN X)
def rfftN (p : Nat) (X : List Nat) : List Nat := (List.range (2 ^ p)).map (packAt opsN (tabW p) (2 ^ (p - 1)) (rfftZ p X))
theorem rfftN_len (p : Nat) (X : List Nat) : (rfftN p X).length = 2 ^ p := by simp [rfftN]
theorem rfftN_at (p : Nat) (X : List Nat) {i : Nat} (h : i < 2 ^ p) : nthN (rfftN p X) i = packAt opsN (tabW p) (2 ^ (p - 1)) (rfftZ p X) i := nthG_map opsN _ h
theorem two_half {p : Nat} (h : 1 ≤ p) : 2 ^ p = 2 * 2 ^ (p - 1) := by rw [← two_pow, show p - 1 + 1 = p by omega]
end Y1
end Go.Proofs.YtnbdoidccacdnaaGreatDoor
