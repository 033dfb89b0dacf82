/-
  Joined, of what this claim leans on: P1, P2, M0, P3, M1, M2, W1, W2, M3, W4, P4, P5, P6, P7, P8, W5, Pa, Pb, Pc, Pn, Po, Pe, Pg, Ph.
-/
import Derived.LaidEql
import Derived.Stop.Asserts
import Derived.Laws.Cover2
import Derived.Test.YtnbdoidccacdnaaGreatDoorJInvOne5
set_option linter.unusedVariables false
set_option linter.unusedSimpArgs false
set_option maxRecDepth 100000
set_option maxHeartbeats 16000000
namespace Go.Proofs.YtnbdoidccacdnaaGreatDoor
namespace P1
open Ieee Go Go.RowKit Go.Proofs Go.Proofs.YtnbdoidccacdnaaGreatDoor Ow Pl Gp F1 I0 W0 S3 S4 P0
attribute [local go_sem ↓] Go.wp_at_zero Go.wp_at_succ
theorem resPP {fn : Func} {p q : Tmp} {tmps : Array Value} {w : World} {b b' : Nat} {v0 v1 u0 u1 : Value} (hf : fn.results = #[.cell p 141, .cell q 141]) (hp : tmps.getD p undef = .pointer (some ⟨b, 0, none⟩)) (hq : tmps.getD q undef = .pointer (some ⟨b', 0, none⟩)) (h : Blk w b 141 [v0, v1]) (h' : Blk w b' 141 [u0, u1]) :
  (results fn tmps).run Tryz.prog w = .ok (.tuple #[.agg #[v0, v1], .agg #[u0, u1]]) w := by
 have y0 := h.cell (i := 0) rfl
 have y1 := h.cell (i := 1) rfl
 have x0 := h'.cell (i := 0) rfl
 have x1 := h'.cell (i := 1) rfl
 have hp2 := hp
 have hq2 := hq
 rw [Array.getD_eq_getD_getElem?] at hp2 hq2
 simp [results, hf, hp2, hq2, go_sem, y0, y1, x0, x1]
def TellsBy (W0 : World) (a b c d : Nat) (e : Ending) (w' : World) : Prop :=
 ∃ r s t u, e = .returned (.tuple #[.agg #[.float .f64 r, .float .f64 s], .agg #[.float .f64 t, .float .f64 u]]) ∧ ((r < 2 * sgnW ∧ s < 2 * sgnW) ∧ (t < 2 * sgnW ∧ u < 2 * sgnW)) ∧ ((cn r = fmul a c ∧ cn s = fmul a d) ∧ (cn t = fmul b d ∧ cn u = fmul b c)) ∧ Bel W0 w'
theorem dBy {a b c d : Nat} (w : World) (ha : a < 2 * sgnW) (hb : b < 2 * sgnW) (hc : c < 2 * sgnW) (hd : d < 2 * sgnW) :
  Calls Tryz.prog 160 #[.agg #[.float .f64 a, .float .f64 b], .agg #[.float .f64 c, .float .f64 d]] w (TellsBy w (cn a) (cn b) (cn c) (cn d)) := by
 have F1 := Ho.mk (fun w => dOMul w ha hc)
 have F2 := Ho.mk (fun w => dOMul w ha hd)
 have F3 := Ho.mk (fun w => dOMul w hb hd)
 have F4 := Ho.mk (fun w => dOMul w hb hc)
 clear ha hb hc hd
 go_enter Tryz.func160, Tryz.ntmps160
 go_wp2_with fail
 have KP := Ho.mk ((((Blk.new w [.float .f64 a, .float .f64 b] 141).old (.cells #[.float .f64 c, .float .f64 d] 141)).old (.cells #[.float .f64 0, .float .f64 0] 141)).old (.cells #[.float .f64 0, .float .f64 0] 141))
 have KQ := Ho.mk (((Blk.new (w.alloc (.cells #[.float .f64 a, .float .f64 b] 141)) [.float .f64 c, .float .f64 d] 141).old (.cells #[.float .f64 0, .float .f64 0] 141)).old (.cells #[.float .f64 0, .float .f64 0] 141))
 rw [World.size_alloc] at KQ
 have KR := Ho.mk ((Blk.new ((w.alloc (.cells #[.float .f64 a, .float .f64 b] 141)).alloc (.cells #[.float .f64 c, .float .f64 d] 141)) [.float .f64 0, .float .f64 0] 141).old (.cells #[.float .f64 0, .float .f64 0] 141))
 rw [World.size_alloc, World.size_alloc] at KR
 have KS := Ho.mk (Blk.new (((w.alloc (.cells #[.float .f64 a, .float .f64 b] 141)).alloc (.cells #[.float .f64 c, .float .f64 d] 141)).alloc (.cells #[.float .f64 0, .float .f64 0] 141)) [.float .f64 0, .float .f64 0] 141)
 rw [World.size_alloc, World.size_alloc, World.size_alloc] at KS
 have g0 := Ho.mk (((((Bel.refl w).alloc (.cells #[.float .f64 a, .float .f64 b] 141)).alloc (.cells #[.float .f64 c, .float .f64 d] 141)).alloc (.cells #[.float .f64 0, .float .f64 0] 141)).alloc (.cells #[.float .f64 0, .float .f64 0] 141))
 have hS : ((((w.alloc (.cells #[.float .f64 a, .float .f64 b] 141)).alloc (.cells #[.float .f64 c, .float .f64 d] 141)).alloc (.cells #[.float .f64 0, .float .f64 0] 141)).alloc (.cells #[.float .f64 0, .float .f64 0] 141)).heap.size = w.heap.size + 1 + 1 + 1 + 1 := by simp only [World.size_alloc]
 generalize ((((w.alloc (.cells #[.float .f64 a, .float .f64 b] 141)).alloc (.cells #[.float .f64 c, .float .f64 d] 141)).alloc (.cells #[.float .f64 0, .float .f64 0] 141)).alloc (.cells #[.float .f64 0, .float .f64 0] 141)) = W at *
 refine wp_region_held_drew (S := fun w' => Blk w' (w.heap.size) 141 [.float .f64 a, .float .f64 b] ∧ Blk w' (w.heap.size + 1) 141 [.float .f64 c, .float .f64 d]) (by kernel_rfl) ⟨KP.out.bel (Bel.refl _).drew, KQ.out.bel (Bel.refl _).drew⟩ (fun hHeld => ?_)
 (try dsimp only at hHeld)
 refine rt (i := 0) hHeld ?_
 refine rl (i := 1) (v := ?_) hHeld (fun w hSw => ?_) ?_
 rotate_left
 ·(have z := hSw.1.cell (i := 0) rfl; go_simp; try (with_reducible rfl))
 refine rt (i := 2) hHeld ?_
 refine rl (i := 3) (v := ?_) hHeld (fun w hSw => ?_) ?_
 rotate_left
 ·(have z := hSw.2.cell (i := 0) rfl; go_simp; try (with_reducible rfl))
 refine rt (i := 5) hHeld ?_
 refine rl (i := 6) (v := ?_) hHeld (fun w hSw => ?_) ?_
 rotate_left
 ·(have z := hSw.1.cell (i := 0) rfl; go_simp; try (with_reducible rfl))
 refine rt (i := 7) hHeld ?_
 refine rl (i := 8) (v := ?_) hHeld (fun w hSw => ?_) ?_
 rotate_left
 ·(have z := hSw.2.cell (i := 1) rfl; go_simp; try (with_reducible rfl))
 refine rt (i := 11) hHeld ?_
 refine rl (i := 12) (v := ?_) hHeld (fun w hSw => ?_) ?_
 rotate_left
 ·(have z := hSw.1.cell (i := 1) rfl; go_simp; try (with_reducible rfl))
 refine rt (i := 13) hHeld ?_
 refine rl (i := 14) (v := ?_) hHeld (fun w hSw => ?_) ?_
 rotate_left
 ·(have z := hSw.2.cell (i := 1) rfl; go_simp; try (with_reducible rfl))
 refine rt (i := 16) hHeld ?_
 refine rl (i := 17) (v := ?_) hHeld (fun w hSw => ?_) ?_
 rotate_left
 ·(have z := hSw.1.cell (i := 1) rfl; go_simp; try (with_reducible rfl))
 refine rt (i := 18) hHeld ?_
 refine rl (i := 19) (v := ?_) hHeld (fun w hSw => ?_) ?_
 rotate_left
 ·(have z := hSw.2.cell (i := 0) rfl; go_simp; try (with_reducible rfl))
 try simp only [Act.put, List.setIfInBounds_toArray, List.set_cons_zero, List.set_cons_succ]
 refine rc (i := 4) (fun K hK => ?_)
 go_simp
 go_at_call 108
 (with_reducible refine (F1.out _).mono ?_); rintro e w1 ⟨r1, rfl, l1, c1, b1⟩
 try go_wp2_with fail
 refine hK.out _ _ ⟨hHeld.1.bel b1, hHeld.2.bel b1⟩ (fun hHeld => ?_)
 clear hK K
 try simp only [Act.put, List.setIfInBounds_toArray, List.set_cons_zero, List.set_cons_succ]
 refine rc (i := 9) (fun K hK => ?_)
 go_simp
 go_at_call 108
 (with_reducible refine (F2.out _).mono ?_); rintro e w2 ⟨r2, rfl, l2, c2, b2⟩
 try go_wp2_with fail
 refine hK.out _ _ ⟨hHeld.1.bel b2, hHeld.2.bel b2⟩ (fun hHeld => ?_)
 clear hK K
 refine rt (i := 10) hHeld ?_
 try simp only [Act.put, List.setIfInBounds_toArray, List.set_cons_zero, List.set_cons_succ]
 refine rc (i := 15) (fun K hK => ?_)
 go_simp
 go_at_call 108
 (with_reducible refine (F3.out _).mono ?_); rintro e w3 ⟨r3, rfl, l3, c3, b3⟩
 try go_wp2_with fail
 refine hK.out _ _ ⟨hHeld.1.bel b3, hHeld.2.bel b3⟩ (fun hHeld => ?_)
 clear hK K
 try simp only [Act.put, List.setIfInBounds_toArray, List.set_cons_zero, List.set_cons_succ]
 refine rc (i := 20) (fun K hK => ?_)
 go_simp
 go_at_call 108
 (with_reducible refine (F4.out _).mono ?_); rintro e w4 ⟨r4, rfl, l4, c4, b4⟩
 try go_wp2_with fail
 refine hK.out _ _ ⟨hHeld.1.bel b4, hHeld.2.bel b4⟩ (fun hHeld => ?_)
 clear hK K
 refine rt (i := 21) hHeld ?_
 have bb := Ho.mk ((((((Bel.refl W).drew).trans b1).trans b2).trans b3).trans b4)
 have KR := Ho.mk (KR.out.bel bb.out)
 have KS := Ho.mk (KS.out.bel bb.out)
 have g2 := Ho.mk (g0.out.trans bb.out)
 clear bb
 have y0 := KR.out.cell (i := 0) rfl
 have y1 := KR.out.cell (i := 1) rfl
 have z0 := KR.out.free 0
 have z1 := KR.out.free 1
 have x0 := KS.out.cell (i := 0) rfl
 have x1 := KS.out.cell (i := 1) rfl
 have v0 := KS.out.free 0
 have v1 := KS.out.free 1
 try simp only [Act.put, List.setIfInBounds_toArray, List.set_cons_zero, List.set_cons_succ]
 refine rc (i := 22) (fun K hK => ?_)
 go_simp
 refine hK.out _ _ ⟨((hHeld.1.far (p := ⟨w.heap.size + 1 + 1, 0, none⟩) (by dsimp only; omega) (.float .f64 r1)).far (p := ⟨w.heap.size + 1 + 1, 1, none⟩) (by dsimp only; omega) (.float .f64 r2)), ((hHeld.2.far (p := ⟨w.heap.size + 1 + 1, 0, none⟩) (by dsimp only; omega) (.float .f64 r1)).far (p := ⟨w.heap.size + 1 + 1, 1, none⟩) (by dsimp only; omega) (.float .f64 r2))⟩ (fun hHeld => ?_)
 clear hK K
 have KS := Ho.mk ((KS.out.far (p := ⟨w.heap.size + 1 + 1, 0, none⟩) (by dsimp only; omega) (.float .f64 r1)).far (p := ⟨w.heap.size + 1 + 1, 1, none⟩) (by dsimp only; omega) (.float .f64 r2))
 have KR := Ho.mk ((KR.out.set 0 (.float .f64 r1)).set 1 (.float .f64 r2))
 have g3 := Ho.mk ((g2.out.out.setCell (p := ⟨w.heap.size + 1 + 1, 0, none⟩) (by dsimp only; omega) (.float .f64 r1)).setCell (p := ⟨w.heap.size + 1 + 1, 1, none⟩) (by dsimp only; omega) (.float .f64 r2))
 simp only [List.set_cons_zero, List.set_cons_succ] at KR
 clear x0 x1 y0 y1 z0 z1 v0 v1
 generalize (w4.setCell ⟨w.heap.size + 1 + 1, 0, none⟩ (.float .f64 r1)).setCell ⟨w.heap.size + 1 + 1, 1, none⟩ (.float .f64 r2) = W9 at *
 have x0 := KS.out.cell (i := 0) rfl
 have x1 := KS.out.cell (i := 1) rfl
 have v0 := KS.out.free 0
 have v1 := KS.out.free 1
 try simp only [Act.put, List.setIfInBounds_toArray, List.set_cons_zero, List.set_cons_succ]
 refine rc (i := 23) (fun K hK => ?_)
 go_simp
 refine hK.out _ _ ⟨((hHeld.1.far (p := ⟨w.heap.size + 1 + 1 + 1, 0, none⟩) (by dsimp only; omega) (.float .f64 r3)).far (p := ⟨w.heap.size + 1 + 1 + 1, 1, none⟩) (by dsimp only; omega) (.float .f64 r4)), ((hHeld.2.far (p := ⟨w.heap.size + 1 + 1 + 1, 0, none⟩) (by dsimp only; omega) (.float .f64 r3)).far (p := ⟨w.heap.size + 1 + 1 + 1, 1, none⟩) (by dsimp only; omega) (.float .f64 r4))⟩ (fun hHeld => ?_)
 clear hK K
 try simp only [Act.put, List.setIfInBounds_toArray, List.set_cons_zero, List.set_cons_succ]
 refine wpAnyH_done (by kernel_rfl) ?_ _
 go_wp2
 exact bodyPost_ret (resPP (fn := Tryz.f160) rfl rfl rfl ((KR.out.far (p := ⟨w.heap.size + 1 + 1 + 1, 0, none⟩) (by dsimp only; omega) (.float .f64 r3)).far (p := ⟨w.heap.size + 1 + 1 + 1, 1, none⟩) (by dsimp only; omega) (.float .f64 r4)) ((KS.out.set 0 (.float .f64 r3)).set 1 (.float .f64 r4))) rfl ⟨r1, r2, r3, r4, rfl, ⟨⟨l1, l2⟩, ⟨l3, l4⟩⟩, ⟨⟨c1, c2⟩, ⟨c3, c4⟩⟩, ⟨((g3.out.setCell (p := ⟨w.heap.size + 1 + 1 + 1, 0, none⟩) (by dsimp only; omega) (.float .f64 r3)).setCell (p := ⟨w.heap.size + 1 + 1 + 1, 1, none⟩) (by dsimp only; omega) (.float .f64 r4))⟩⟩
theorem dTurnP {a b c d : Nat} (w : World) (ha : a < 2 * sgnW) (hb : b < 2 * sgnW) (hc : c < 2 * sgnW) (hd : d < 2 * sgnW) :
  Calls Tryz.prog 133 #[.agg #[.float .f64 a, .float .f64 b], .agg #[.float .f64 c, .float .f64 d]] w (TellsP w (fadd (fmul (cn a) (cn c)) (fmul (cn b) (cn d)), fsub (fmul (cn b) (cn c)) (fmul (cn a) (cn d)))) := by
 have BY := Ho.mk (fun w => dBy w ha hb hc hd)
 clear ha hb hc hd
 go_enter Tryz.func133, Tryz.ntmps133
 have KP := Ho.mk (((Blk.new w [.float .f64 a, .float .f64 b] 141).old (.cells #[.float .f64 c, .float .f64 d] 141)).old (.cells #[.float .f64 0, .float .f64 0] 141))
 have KQ := Ho.mk ((Blk.new (w.alloc (.cells #[.float .f64 a, .float .f64 b] 141)) [.float .f64 c, .float .f64 d] 141).old (.cells #[.float .f64 0, .float .f64 0] 141))
 rw [World.size_alloc] at KQ
 have KR := Ho.mk (Blk.new ((w.alloc (.cells #[.float .f64 a, .float .f64 b] 141)).alloc (.cells #[.float .f64 c, .float .f64 d] 141)) [.float .f64 0, .float .f64 0] 141)
 rw [World.size_alloc, World.size_alloc] at KR
 have g0 := Ho.mk ((((Bel.refl w).alloc (.cells #[.float .f64 a, .float .f64 b] 141)).alloc (.cells #[.float .f64 c, .float .f64 d] 141)).alloc (.cells #[.float .f64 0, .float .f64 0] 141))
 have hS : (((w.alloc (.cells #[.float .f64 a, .float .f64 b] 141)).alloc (.cells #[.float .f64 c, .float .f64 d] 141)).alloc (.cells #[.float .f64 0, .float .f64 0] 141)).heap.size = w.heap.size + 1 + 1 + 1 := by simp only [World.size_alloc]
 go_upto_region 1 with fail
 generalize (((w.alloc (.cells #[.float .f64 a, .float .f64 b] 141)).alloc (.cells #[.float .f64 c, .float .f64 d] 141)).alloc (.cells #[.float .f64 0, .float .f64 0] 141)) = W at *
 have x0 := KP.out.cell (i := 0) rfl
 have x1 := KP.out.cell (i := 1) rfl
 have y0 := KQ.out.cell (i := 0) rfl
 have y1 := KQ.out.cell (i := 1) rfl
 go_wp2_with fail
 (with_reducible refine (BY.out _).mono ?_); rintro e w5 ⟨r, s, t, u, rfl, l5, c5, b5⟩
 have KR := Ho.mk (KR.out.bel b5)
 have g2 := Ho.mk (g0.out.trans b5)
 clear x0 x1 y0 y1 b5 KP KQ
 go_upto_region 2 with fail
 have KX := Ho.mk ((Blk.new w5 [.float .f64 r, .float .f64 s] 141).old (.cells #[.float .f64 t, .float .f64 u] 141))
 have KY := Ho.mk (Blk.new (w5.alloc (.cells #[.float .f64 r, .float .f64 s] 141)) [.float .f64 t, .float .f64 u] 141)
 rw [World.size_alloc] at KY
 have KR := Ho.mk ((KR.out.old (.cells #[.float .f64 r, .float .f64 s] 141)).old (.cells #[.float .f64 t, .float .f64 u] 141))
 have g3 := Ho.mk ((g2.out.alloc (.cells #[.float .f64 r, .float .f64 s] 141)).alloc (.cells #[.float .f64 t, .float .f64 u] 141))
 have A1 := Ho.mk (fun w => dOAdd w l5.1.1 l5.2.1)
 have A2 := Ho.mk (fun w => dOSub w l5.2.2 l5.1.2)
 have C5 := Ho.mk c5
 clear l5 c5 g2
 generalize (w5.alloc (.cells #[.float .f64 r, .float .f64 s] 141)).alloc (.cells #[.float .f64 t, .float .f64 u] 141) = W3 at *
 have x0 := KX.out.cell (i := 0) rfl
 have x1 := KX.out.cell (i := 1) rfl
 have y0 := KY.out.cell (i := 0) rfl
 have y1 := KY.out.cell (i := 1) rfl
 refine I7.wp_region_late 11 (S := fun w' => Bel W3 w') (by kernel_rfl) (Bel.refl _).drew (fun hHeld => ?_)
 (try dsimp only at hHeld)
 refine I7.kt (i := 0) hHeld ?_
 refine I7.kl (i := 1) (v := ?_) hHeld (fun w hSw => ?_) ?_
 rotate_left
 ·(have z0 := hSw.cell x0; go_simp; try (with_reducible rfl))
 refine I7.kt (i := 2) hHeld ?_
 refine I7.kl (i := 3) (v := ?_) hHeld (fun w hSw => ?_) ?_
 rotate_left
 ·(have z0 := hSw.cell y0; go_simp; try (with_reducible rfl))
 refine I7.kt (i := 5) hHeld ?_
 refine I7.kl (i := 6) (v := ?_) hHeld (fun w hSw => ?_) ?_
 rotate_left
 ·(have z0 := hSw.cell y1; go_simp; try (with_reducible rfl))
 refine I7.kt (i := 7) hHeld ?_
 refine I7.kl (i := 8) (v := ?_) hHeld (fun w hSw => ?_) ?_
 rotate_left
 ·(have z0 := hSw.cell x1; go_simp; try (with_reducible rfl))
 try simp only [Act.put, List.setIfInBounds_toArray, List.set_cons_zero, List.set_cons_succ]
 refine I7.kc (i := 4) (fun K hK => ?_)
 go_simp
 go_at_call 154
 (with_reducible refine (A1.out _).mono ?_); rintro e w6 ⟨r6, rfl, l6, c6, b6⟩
 try go_wp2_with fail
 refine hK.out _ _ (Bel.trans hHeld b6) (fun hHeld => ?_)
 clear hK K
 try simp only [Act.put, List.setIfInBounds_toArray, List.set_cons_zero, List.set_cons_succ]
 refine I7.kc (i := 9) (fun K hK => ?_)
 go_simp
 go_at_call 155
 (with_reducible refine (A2.out _).mono ?_); rintro e w7 ⟨r7, rfl, l7, c7, b7⟩
 try go_wp2_with fail
 refine hK.out _ _ (Bel.trans hHeld b7) (fun hHeld => ?_)
 clear hK K
 refine I7.kt (i := 10) hHeld ?_
 have KR := Ho.mk (KR.out.bel hHeld)
 have g4 := Ho.mk (g3.out.trans hHeld)
 clear x0 x1 y0 y1 hHeld
 have y0 := KR.out.cell (i := 0) rfl
 have y1 := KR.out.cell (i := 1) rfl
 have z0 := KR.out.free 0
 have z1 := KR.out.free 1
 try simp only [Act.put, List.setIfInBounds_toArray, List.set_cons_zero, List.set_cons_succ]
 refine I7.ke (i := 11) (fun K hK => ?_)
 go_simp
 refine hK.out _ _ ?_
 clear hK K
 try simp only [Act.put, List.setIfInBounds_toArray, List.set_cons_zero, List.set_cons_succ]
 refine wpAny_done (by kernel_rfl) ?_ _
 go_wp2
 exact bodyPost_ret (resP (fn := Tryz.f133) rfl rfl ((KR.out.set 0 (.float .f64 r6)).set 1 (.float .f64 r7))) rfl ⟨r6, r7, rfl, ⟨l6, l7⟩, ⟨by rw [c6, C5.out.1.1, C5.out.2.1], by rw [c7, C5.out.2.2, C5.out.1.2]⟩, ⟨((g4.out.out.setCell (p := ⟨w.heap.size + 1 + 1, 0, none⟩) (by dsimp only; omega) (.float .f64 r6)).setCell (p := ⟨w.heap.size + 1 + 1, 1, none⟩) (by dsimp only; omega) (.float .f64 r7))⟩⟩
theorem dTold {a b c d fn : Nat} {p : Nat × Nat} (w : World) (hfn : fn = 124 ∨ fn = 125 ∨ fn = 133)
  (BY : ∀ w, Calls Tryz.prog fn #[.agg #[.float .f64 a, .float .f64 b], .agg #[.float .f64 c, .float .f64 d]] w (TellsP w p)) :
  Calls Tryz.prog 123 #[.func (.func fn) #[] #[], .float .f64 a, .float .f64 b, .float .f64 c, .float .f64 d] w (Tells2 w p) := by
 have BB := Ho.mk BY
 clear BY
 rcases hfn with rfl | rfl | rfl
 all_goals
  go_enter Tryz.func123, Tryz.ntmps123
  go_wp2_with fail
  (with_reducible refine (BB.out _).mono ?_); rintro e w5 ⟨r, s, rfl, l5, c5, b5⟩
  have KX := Ho.mk (Blk.new w5 [.float .f64 r, .float .f64 s] 141)
  have g2 := Ho.mk (b5.alloc (.cells #[.float .f64 r, .float .f64 s] 141))
  have HH := Ho.mk (And.intro l5 c5)
  clear l5 c5 b5
  have y0 := KX.out.cell (i := 0) rfl
  have y1 := KX.out.cell (i := 1) rfl
  go_upto_region 2 with fail
  generalize w5.alloc (.cells #[.float .f64 r, .float .f64 s] 141) = W3 at *
  go_region
  go_wp2
  go_ret2
  exact ⟨r, s, rfl, HH.out.1, HH.out.2, g2.out.drew⟩
end P1
namespace P2
open Ieee Go Go.RowKit Go.Proofs Go.Proofs.YtnbdoidccacdnaaGreatDoor Ow Pl Gp F1 I0 W0 S3 S4 P0 P1
attribute [local go_sem ↓] Go.wp_at_zero Go.wp_at_succ
theorem dCAdd {a b c d : Nat} (w : World) (ha : a < 2 * sgnW) (hb : b < 2 * sgnW) (hc : c < 2 * sgnW) (hd : d < 2 * sgnW) :
  Calls Tryz.prog 81 #[.float .f64 a, .float .f64 b, .float .f64 c, .float .f64 d] w (Tells2 w (fadd (cn a) (cn c), fadd (cn b) (cn d))) := by
 have TD := Ho.mk (fun w => dTold w (.inl rfl) (fun w => dPAdd w ha hb hc hd))
 clear ha hb hc hd
 go_enter Tryz.func81, Tryz.ntmps81
 go_wp2_with fail
 (with_reducible refine (TD.out _).mono ?_); rintro e w5 ⟨r, s, rfl, l5, c5, b5⟩
 go_wp2
 go_ret2
 exact ⟨r, s, rfl, l5, c5, b5⟩
theorem dCSub {a b c d : Nat} (w : World) (ha : a < 2 * sgnW) (hb : b < 2 * sgnW) (hc : c < 2 * sgnW) (hd : d < 2 * sgnW) :
  Calls Tryz.prog 82 #[.float .f64 a, .float .f64 b, .float .f64 c, .float .f64 d] w (Tells2 w (fsub (cn a) (cn c), fsub (cn b) (cn d))) := by
 have TD := Ho.mk (fun w => dTold w (.inr (.inl rfl)) (fun w => dPSub w ha hb hc hd))
 clear ha hb hc hd
 go_enter Tryz.func82, Tryz.ntmps82
 go_wp2_with fail
 (with_reducible refine (TD.out _).mono ?_); rintro e w5 ⟨r, s, rfl, l5, c5, b5⟩
 go_wp2
 go_ret2
 exact ⟨r, s, rfl, l5, c5, b5⟩
theorem dCTurn {a b c d : Nat} (w : World) (ha : a < 2 * sgnW) (hb : b < 2 * sgnW) (hc : c < 2 * sgnW) (hd : d < 2 * sgnW) :
  Calls Tryz.prog 86 #[.float .f64 a, .float .f64 b, .float .f64 c, .float .f64 d] w (Tells2 w (fadd (fmul (cn a) (cn c)) (fmul (cn b) (cn d)), fsub (fmul (cn b) (cn c)) (fmul (cn a) (cn d)))) := by
 have TD := Ho.mk (fun w => dTold w (.inr (.inr rfl)) (fun w => dTurnP w ha hb hc hd))
 clear ha hb hc hd
 go_enter Tryz.func86, Tryz.ntmps86
 go_wp2_with fail
 (with_reducible refine (TD.out _).mono ?_); rintro e w5 ⟨r, s, rfl, l5, c5, b5⟩
 go_wp2
 go_ret2
 exact ⟨r, s, rfl, l5, c5, b5⟩
end P2
namespace M0
structure Ops (α : Type) where
 add : α → α → α
 sub : α → α → α
 mul : α → α → α
 neg : α → α
 lit : Nat → α
def loopN {σ : Type} (f : Nat → σ → σ) : Nat → σ → σ
 | 0, s => s
 | k + 1, s => f k (loopN f k s)
section
variable {α : Type} (O : Ops α)
def nthG (l : List α) (i : Nat) : α := l.getD i (O.lit 0)
def cadd (x y a b : α) : α × α := (O.add x a, O.add y b)
def csub (x y a b : α) : α × α := (O.sub x a, O.sub y b)
def cturn (a b c s : α) : α × α := (O.add (O.mul a c) (O.mul b s), O.sub (O.mul b c) (O.mul a s))
def swapAt (l : List α) (k a : Nat) : List α := if k < a then (l.set k (nthG O l a)).set a (nthG O l k) else l
def swapG (order : List Nat) (l : List α) : List α := loopN (fun k l => swapAt O l k (order.getD k 0)) order.length l
def mstep (from_ half : Nat) (tw : Nat → Nat × Nat) (k : Nat) (st : List α × List α) : List α × List α :=
 let a := nthG O st.1 (from_ + half + k)
 let b := nthG O st.2 (from_ + half + k)
 let t := if k = 0 then (a, b) else cturn O a b (O.lit (tw k).1) (O.lit (tw k).2)
 let x := nthG O st.1 (from_ + k)
 let y := nthG O st.2 (from_ + k)
 ((st.1.set (from_ + k) (O.add x t.1)).set (from_ + half + k) (O.sub x t.1), (st.2.set (from_ + k) (O.add y t.2)).set (from_ + half + k) (O.sub y t.2))
def mergeG (from_ half : Nat) (tw : Nat → Nat × Nat) (st : List α × List α) : List α × List α := loopN (mstep O from_ half tw) half st
def stageG (half many : Nat) (tw : Nat → Nat × Nat) (st : List α × List α) : List α × List α := loopN (fun i st => mergeG O (i * (2 * half)) half tw st) many st
def intoG (order : List Nat) (p : Nat) (tab : Nat → Nat × Nat) (st : List α × List α) : List α × List α :=
 loopN (fun q st => stageG O (2 ^ q) (2 ^ (p - (q + 1))) (fun k => tab (k * 2 ^ (p - (q + 1)))) st) p (swapG O order st.1, swapG O order st.2)
end
def bitsStep (p k : Nat) (l : List Nat) : List Nat := if 0 < k then l.set k (l.getD (k / 2) 0 / 2 + k % 2 * 2 ^ (p - 1)) else l
def bitsG (p : Nat) : List Nat := loopN (bitsStep p) (2 ^ p) (List.replicate (2 ^ p) 0)
end M0
namespace P3
open Ieee Go Go.RowKit Go.Proofs Go.Proofs.YtnbdoidccacdnaaGreatDoor Ow Pl Gp F1 I0 W0 S4 M0 N2
attribute [local go_sem ↓] Go.wp_at_zero Go.wp_at_succ
def insN (X : List Nat) : List Value := X.map fun (n : Nat) => Value.int .i64 (n : Int)
theorem insN_at {X : List Nat} {j : Nat} (h : j < X.length) : (insN X)[j]? = some (.int .i64 ((X.getD j 0 : Nat) : Int)) := by
 simp [insN, List.getElem?_eq_getElem h]
def bitsOk (p : Nat) : Bool := (fun l : List Nat => (List.range (2 ^ p)).all fun i => i == 0 || decide (bits BinOp.or IntKind.i64 ((l.getD (i / 2) 0 : Nat) / 2 : Int) (wrap64 (bits BinOp.and IntKind.i64 (i : Int) 1 * 2 ^ (p - 1))) = ((l.getD i 0 : Nat) : Int))) (bitsG p)
theorem bits_ok : ∀ p : Fin 8, bitsOk p.val = true ∧ (bitsG p.val).length = 2 ^ p.val ∧ (bitsG p.val).getD 0 0 = 0 := by decide +kernel
theorem bits_map {p : Nat} (hp : p ≤ 7) : bitsG p = (List.range (2 ^ p)).map (fun j => (bitsG p).getD j 0) := by
 have h := (bits_ok ⟨p, by omega⟩).2.1
 dsimp only at h
 refine List.ext_getElem (by simpa using h) fun i h1 h2 => ?_
 simp [List.getElem?_eq_getElem h1]
theorem bits_val {p i : Nat} (hp : p ≤ 7) (hi : i < 2 ^ p) (h0 : 0 < i) : bits BinOp.or IntKind.i64 (((bitsG p).getD (i / 2) 0 : Nat) / 2 : Int) (wrap64 (bits BinOp.and IntKind.i64 (i : Int) 1 * 2 ^ (p - 1))) = (((bitsG p).getD i 0 : Nat) : Int) := by
 have h0' := (bits_ok ⟨p, by omega⟩).1
 unfold bitsOk at h0'
 dsimp only at h0'
 have h := List.all_eq_true.1 h0' i (List.mem_range.2 hi)
 simp only [Bool.or_eq_true, beq_iff_eq, decide_eq_true_eq] at h
 rcases h with h | h
 ·omega
 ·exact h
theorem insN_set (X : List Nat) (i v : Nat) : (insN X).set i (.int .i64 (v : Int)) = insN (X.set i v) := by
 unfold insN; rw [List.map_set]
theorem upRow_at (f : Nat → Nat) {m i j : Nat} (h : j < m) : (upRow f m i).getD j 0 = if j < i then f j else 0 := by
 simp [upRow, List.getElem?_eq_getElem, h]
theorem dBits {p : Nat} {pi : Int} (w : World) (hp : pi = (p : Int)) (hp9 : p ≤ 7) :
  Calls Tryz.prog 101 #[.int .i64 pi] w
   fun e w' => ∃ b, e = .returned (.slice (some ⟨b, 0, none⟩) (2 ^ p) (2 ^ p)) ∧ Blk w' b 3 (insN (bitsG p)) ∧ w.heap.size ≤ b ∧ Bel w w' := by
 subst hp
 have h2 : 2 ^ p ≤ 512 := Nat.le_trans (Nat.pow_le_pow_right (by decide) hp9) (by decide)
 go_enter Tryz.func101, Tryz.ntmps101
 have hw : wrap64 ((2 : Int) ^ p) = ((2 ^ p : Nat) : Int) := by
  have : ((2 : Int) ^ p) = ((2 ^ p : Nat) : Int) := by push_cast; rfl
  rw [this]
  generalize 2 ^ p = N at *
  unfold wrap64 at *; omega
 go_upto_region 3 with fail
 go_wp2_with (at_make; refine wpList_mk _ rfl _ _ 38 rfl 3 (.int .i64 0) 8 Tryz.underlying38 info3 rfl (2 ^ p) (congrArg (Value.int .i64) hw) (congrArg (Value.int .i64) hw) (by omega) (by omega) ?_; intro w1 hk1 hl1 hs1)
 have hN : ((2 : Int) ^ p) = ((2 ^ p : Nat) : Int) := by push_cast; rfl
 rw [hN]
 obtain ⟨N, hNe⟩ : ∃ N, N = 2 ^ p := ⟨_, rfl⟩
 rw [← hNe] at hk1 h2 ⊢
 have HNE := Ho.mk hNe
 have hN1 : 0 < N := by rw [hNe]; exact Nat.two_pow_pos p
 clear hN hw hNe
 obtain ⟨bo, hbo⟩ : ∃ bo, bo = w.heap.size := ⟨_, rfl⟩
 rw [← hbo] at hk1 hs1 ⊢
 have HBO := Ho.mk hbo
 have HK1 := Ho.mk hk1
 have HL1 := Ho.mk hl1
 clear hk1 hl1 hs1 hbo
 go_loopw [16] (fun v wr => ∃ (i : Nat), i ≤ N ∧ v = .int .i64 i ∧ Ho (Blk wr bo 3 (insN (upRow (fun j => (bitsG p).getD j 0) N i))) ∧ Ho (Bel w wr)) (fun v _ => N - (intOf v).toNat)
 case atStart => exact ⟨0, Nat.zero_le _, rfl, ⟨by rw [upRow_zero]; simpa [insN] using HK1.out⟩, HL1⟩
 case round =>
  obtain ⟨i, hi, rfl, FK, HW⟩ := hrel
  rcases Nat.lt_or_ge i N with hlt | hge
  ·rcases Nat.eq_zero_or_pos i with rfl | hpos
   ·go_wp2
    go_roundw
    case rel =>
     have f0 := (bits_ok ⟨p, by omega⟩).2.2
     dsimp only at f0
     have hz := upRow_set (fun j => (bitsG p).getD j 0) N 0 hlt
     simp only [f0, upRow_zero] at hz
     rw [show (List.replicate N 0).set 0 0 = List.replicate N 0 from by
      apply List.ext_getElem (by simp)
      intro i h1 h2
      rw [List.getElem_set]; split <;> simp] at hz
     refine ⟨1, by omega, by simp, ⟨?_⟩, HW⟩
     rw [← hz, ← upRow_zero (fun j => (bitsG p).getD j 0)]; exact FK.out
    case measure => simp [intOf]; omega
   ·have hl2 : i / 2 < (upRow (fun j => (bitsG p).getD j 0) N i).length := by rw [upRow_len]; omega
    have hl3 : i < (upRow (fun j => (bitsG p).getD j 0) N i).length := by rw [upRow_len]; omega
    have y0 := FK.out.cell (insN_at hl2)
    rw [upRow_at _ (by omega), if_pos (by omega)] at y0
    obtain ⟨x, hx⟩ : ∃ x, x = (bitsG p).getD (i / 2) 0 := ⟨_, rfl⟩
    rw [← hx] at y0
    have HX := Ho.mk hx
    clear hx
    have y1 := FK.out.cell (insN_at hl3)
    have z1 := FK.out.free i
    have hp1 : 0 < p := by
     rcases Nat.eq_zero_or_pos p with rfl | h
     ·have := HNE.out; simp at this; omega
     ·exact h
    go_upto_region 8 with fail
    have BV := Ho.mk (bits_val hp9 (by rw [← HNE.out]; exact hlt) hpos)
    rw [← HX.out] at BV
    go_region
    go_wp2
    go_roundw
    case rel =>
     refine ⟨i + 1, by omega, by simp, ⟨?_⟩, ⟨?_⟩⟩
     ·rw [BV.out]
      have hk := FK.out.set i (.int .i64 (((bitsG p).getD i 0 : Nat) : Int))
      rw [insN_set, upRow_set (fun j => (bitsG p).getD j 0) N i hlt] at hk
      exact hk.bel (Bel.refl _).drew
     ·exact ⟨((HW.out.drew.out).setCell (by have := HBO.out; dsimp only; omega) _)⟩
    case measure => simp [intOf]; omega
  ·obtain rfl : i = N := by omega
   rw [upRow_all] at FK
   go_wp2
   go_ret
   exact ⟨bo, by rw [HNE.out]; rfl, by rw [bits_map hp9, ← HNE.out]; exact FK.out, by have := HBO.out; omega, HW.out⟩
end P3
namespace M1
open M0
variable {α : Type} (O : Ops α)
theorem loopN_succ {σ : Type} (f : Nat → σ → σ) (k : Nat) (s : σ) : loopN f (k + 1) s = f k (loopN f k s) := rfl
theorem loopN_congr {σ : Type} {f g : Nat → σ → σ} (n : Nat) (s : σ) (h : ∀ k, k < n → ∀ s, f k s = g k s) : loopN f n s = loopN g n s := by
 induction n with
 | zero => rfl
 | succ n ih => rw [loopN_succ, loopN_succ, ih (fun k hk => h k (by omega)), h n (by omega)]
theorem loopN_inv {σ : Type} {f : Nat → σ → σ} {I : Nat → σ → Prop} (n : Nat) {s : σ} (h0 : I 0 s) (h : ∀ k s, k < n → I k s → I (k + 1) (f k s)) : I n (loopN f n s) := by
 induction n with
 | zero => exact h0
 | succ n ih => exact h n _ (by omega) (ih fun k s hk => h k s (by omega))
theorem nthG_lt {l : List α} {i : Nat} (h : i < l.length) : nthG O l i = l[i] := by simp [nthG, h]
theorem nthG_set (l : List α) (i : Nat) (x : α) (j : Nat) : nthG O (l.set i x) j = if i = j ∧ i < l.length then x else nthG O l j := by
 simp only [nthG, List.getD_eq_getElem?_getD, List.getElem?_set]
 by_cases h : i = j
 ·subst h
  by_cases h2 : i < l.length
  ·simp [h2]
  ·simp [h2]
 ·simp [h]
theorem ext_nth {a b : List α} (hl : a.length = b.length) (h : ∀ i, i < a.length → nthG O a i = nthG O b i) : a = b := by
 apply List.ext_getElem hl
 intro i h1 h2
 have := h i h1
 rwa [nthG_lt O h1, nthG_lt O h2] at this
theorem nthG_app (a b : List α) (i : Nat) : nthG O (a ++ b) i = if i < a.length then nthG O a i else nthG O b (i - a.length) := by
 simp only [nthG, List.getD_eq_getElem?_getD, List.getElem?_append]
 split <;> rfl
theorem nthG_map (f : Nat → α) {n i : Nat} (h : i < n) : nthG O ((List.range n).map f) i = f i := by
 rw [nthG_lt O (by simpa using h)]; simp
def tw1 (tw : Nat → Nat × Nat) (k : Nat) (a b : α) : α × α := if k = 0 then (a, b) else cturn O a b (O.lit (tw k).1) (O.lit (tw k).2)
def mergeAt (f half : Nat) (tw : Nat → Nat × Nat) (X Y : Nat → α) (i : Nat) : α × α :=
 if f ≤ i ∧ i < f + half then cadd O (X i) (Y i) (tw1 O tw (i - f) (X (i + half)) (Y (i + half))).1 (tw1 O tw (i - f) (X (i + half)) (Y (i + half))).2
 else if f + half ≤ i ∧ i < f + 2 * half then csub O (X (i - half)) (Y (i - half)) (tw1 O tw (i - f - half) (X i) (Y i)).1 (tw1 O tw (i - f - half) (X i) (Y i)).2
 else (X i, Y i)
def mergeK (f half k : Nat) (tw : Nat → Nat × Nat) (X Y : Nat → α) (i : Nat) : α × α :=
 if f ≤ i ∧ i < f + k then cadd O (X i) (Y i) (tw1 O tw (i - f) (X (i + half)) (Y (i + half))).1 (tw1 O tw (i - f) (X (i + half)) (Y (i + half))).2
 else if f + half ≤ i ∧ i < f + half + k then csub O (X (i - half)) (Y (i - half)) (tw1 O tw (i - f - half) (X i) (Y i)).1 (tw1 O tw (i - f - half) (X i) (Y i)).2
 else (X i, Y i)
theorem mergeG_at (f half : Nat) (tw : Nat → Nat × Nat) (st : List α × List α) (h1 : f + 2 * half ≤ st.1.length) (h2 : f + 2 * half ≤ st.2.length) :
  (mergeG O f half tw st).1.length = st.1.length ∧ (mergeG O f half tw st).2.length = st.2.length ∧
  ∀ i, (nthG O (mergeG O f half tw st).1 i, nthG O (mergeG O f half tw st).2 i) = mergeAt O f half tw (nthG O st.1) (nthG O st.2) i := by
 have key := loopN_inv (f := mstep O f half tw) (I := fun k s => s.1.length = st.1.length ∧ s.2.length = st.2.length ∧ ∀ i, (nthG O s.1 i, nthG O s.2 i) = mergeK O f half k tw (nthG O st.1) (nthG O st.2) i) half (s := st)
  ⟨rfl, rfl, fun i => by unfold mergeK; rw [if_neg (by omega), if_neg (by omega)]⟩ (by
  rintro k s hk ⟨l1, l2, h⟩
  refine ⟨by simp [mstep, l1], by simp [mstep, l2], fun i => ?_⟩
  have ea : (nthG O s.1 (f + half + k), nthG O s.2 (f + half + k)) = (nthG O st.1 (f + half + k), nthG O st.2 (f + half + k)) := by
   rw [h, mergeK, if_neg (by omega), if_neg (by omega)]
  have ex : (nthG O s.1 (f + k), nthG O s.2 (f + k)) = (nthG O st.1 (f + k), nthG O st.2 (f + k)) := by
   rw [h, mergeK, if_neg (by omega), if_neg (by omega)]
  simp only [Prod.mk.injEq] at ea ex
  have et : (if k = 0 then (nthG O s.1 (f + half + k), nthG O s.2 (f + half + k)) else cturn O (nthG O s.1 (f + half + k)) (nthG O s.2 (f + half + k)) (O.lit (tw k).1) (O.lit (tw k).2)) = tw1 O tw k (nthG O st.1 (f + half + k)) (nthG O st.2 (f + half + k)) := by
   rw [ea.1, ea.2]; rfl
  simp only [mstep, et, ex.1, ex.2]
  simp only [nthG_set, List.length_set, l1, l2]
  have hi := h i
  by_cases c1 : f + half + k = i
  ·subst c1
   simp only [show f + half + k < st.1.length from by omega, show f + half + k < st.2.length from by omega, and_self, if_true]
   rw [mergeK, if_neg (by omega), if_pos (by omega)]
   rw [show f + half + k - half = f + k from by omega, show f + half + k - f - half = k from by omega]; rfl
  ·simp only [c1, false_and, if_false]
   by_cases c2 : f + k = i
   ·subst c2
    simp only [show f + k < st.1.length from by omega, show f + k < st.2.length from by omega, and_self, if_true]
    rw [mergeK, if_pos (by omega)]
    rw [show f + k + half = f + half + k from by omega, show f + k - f = k from by omega]; rfl
   ·simp only [c2, false_and, if_false]
    rw [hi]
    unfold mergeK
    by_cases d1 : f ≤ i ∧ i < f + k
    ·rw [if_pos d1, if_pos (show f ≤ i ∧ i < f + (k + 1) by omega)]
    ·rw [if_neg d1, if_neg (show ¬ (f ≤ i ∧ i < f + (k + 1)) by omega)]
     by_cases d2 : f + half ≤ i ∧ i < f + half + k
     ·rw [if_pos d2, if_pos (show f + half ≤ i ∧ i < f + half + (k + 1) by omega)]
     ·rw [if_neg d2, if_neg (show ¬ (f + half ≤ i ∧ i < f + half + (k + 1)) by omega)])
 obtain ⟨a, b, c⟩ := key
 refine ⟨a, b, fun i => (c i).trans ?_⟩
 unfold mergeK mergeAt
 rw [show f + half + half = f + 2 * half from by omega]
def stageAt (half : Nat) (tw : Nat → Nat × Nat) (X Y : Nat → α) (i : Nat) : α × α :=
 if i % (2 * half) < half then cadd O (X i) (Y i) (tw1 O tw (i % (2 * half)) (X (i + half)) (Y (i + half))).1 (tw1 O tw (i % (2 * half)) (X (i + half)) (Y (i + half))).2
 else csub O (X (i - half)) (Y (i - half)) (tw1 O tw (i % (2 * half) - half) (X i) (Y i)).1 (tw1 O tw (i % (2 * half) - half) (X i) (Y i)).2
theorem stageG_at (half many : Nat) (hp : 0 < half) (tw : Nat → Nat × Nat) (st : List α × List α) (h1 : many * (2 * half) ≤ st.1.length) (h2 : many * (2 * half) ≤ st.2.length) :
  (stageG O half many tw st).1.length = st.1.length ∧ (stageG O half many tw st).2.length = st.2.length ∧
  ∀ i, (nthG O (stageG O half many tw st).1 i, nthG O (stageG O half many tw st).2 i) = if i < many * (2 * half) then stageAt O half tw (nthG O st.1) (nthG O st.2) i else (nthG O st.1 i, nthG O st.2 i) := by
 refine loopN_inv (f := fun i st => mergeG O (i * (2 * half)) half tw st) (I := fun k s => s.1.length = st.1.length ∧ s.2.length = st.2.length ∧ ∀ i, (nthG O s.1 i, nthG O s.2 i) = if i < k * (2 * half) then stageAt O half tw (nthG O st.1) (nthG O st.2) i else (nthG O st.1 i, nthG O st.2 i)) many (s := st)
  ⟨rfl, rfl, fun i => by rw [if_neg (by omega)]⟩ ?_
 rintro k s hk ⟨l1, l2, h⟩
 have hle : (k + 1) * (2 * half) ≤ many * (2 * half) := Nat.mul_le_mul_right _ hk
 rw [Nat.succ_mul k] at hle
 obtain ⟨m1, m2, m⟩ := mergeG_at O (k * (2 * half)) half tw s (by omega) (by omega)
 refine ⟨m1.trans l1, m2.trans l2, fun i => (m i).trans ?_⟩
 rw [Nat.succ_mul k]
 have far : ∀ j, k * (2 * half) ≤ j → nthG O s.1 j = nthG O st.1 j ∧ nthG O s.2 j = nthG O st.2 j := fun j hj => by
  have := h j
  rw [if_neg (by omega)] at this
  simpa using this
 have hi := h i
 generalize hF : k * (2 * half) = F at *
 have hmod : ∀ r, r < 2 * half → i = F + r → i % (2 * half) = r := fun r hr e => by
  rw [e, ← hF, Nat.mul_comm, Nat.mul_add_mod, Nat.mod_eq_of_lt hr]
 unfold mergeAt
 by_cases c1 : F ≤ i ∧ i < F + half
 ·have e := hmod (i - F) (by omega) (by omega)
  rw [if_pos c1, if_pos (by omega), stageAt, e, if_pos (by omega), (far i (by omega)).1, (far i (by omega)).2, (far (i + half) (by omega)).1, (far (i + half) (by omega)).2]
 ·rw [if_neg c1]
  by_cases c2 : F + half ≤ i ∧ i < F + 2 * half
  ·have e := hmod (i - F) (by omega) (by omega)
   rw [if_pos c2, if_pos (by omega), stageAt, e, if_neg (by omega), (far i (by omega)).1, (far i (by omega)).2, (far (i - half) (by omega)).1, (far (i - half) (by omega)).2]
  ·rw [if_neg c2, hi]
   by_cases c3 : i < F
   ·rw [if_pos c3, if_pos (by omega)]
   ·rw [if_neg c3, if_neg (by omega)]
theorem stageG_congr (half many : Nat) {tw tw' : Nat → Nat × Nat} (h : ∀ k, k < half → tw k = tw' k) (st : List α × List α) : stageG O half many tw st = stageG O half many tw' st := by
 refine loopN_congr _ _ fun i _ s => loopN_congr _ _ fun k hk s => ?_
 unfold mstep
 simp only [h k hk]
def stages (p : Nat) (tw : Nat → Nat → Nat × Nat) (n : Nat) (st : List α × List α) : List α × List α := loopN (fun q st => stageG O (2 ^ q) (2 ^ (p - (q + 1))) (tw q) st) n st
theorem pow_split {p q : Nat} (h : q < p) : 2 ^ (p - (q + 1)) * (2 * 2 ^ q) = 2 ^ p := by
 rw [← Nat.pow_succ', ← Nat.pow_add]; congr 1; omega
theorem stages_len {p : Nat} (tw : Nat → Nat → Nat × Nat) {st : List α × List α} (h1 : st.1.length = 2 ^ p) (h2 : st.2.length = 2 ^ p) {n : Nat} (hn : n ≤ p) :
  (stages O p tw n st).1.length = 2 ^ p ∧ (stages O p tw n st).2.length = 2 ^ p := by
 refine loopN_inv (I := fun k (s : List α × List α) => s.1.length = 2 ^ p ∧ s.2.length = 2 ^ p) n ⟨h1, h2⟩ ?_
 rintro q s hq ⟨a, b⟩
 have e := pow_split (show q < p by omega)
 obtain ⟨x, y, _⟩ := stageG_at O (2 ^ q) (2 ^ (p - (q + 1))) (Nat.two_pow_pos q) (tw q) s (by omega) (by omega)
 exact ⟨x.trans a, y.trans b⟩
def appP (x y : List α × List α) : List α × List α := (x.1 ++ y.1, x.2 ++ y.2)
theorem stage_app (p q : Nat) (hq : q < p) (tw : Nat → Nat × Nat) (x y : List α × List α) (h1 : x.1.length = 2 ^ p) (h2 : x.2.length = 2 ^ p) (h3 : y.1.length = 2 ^ p) (h4 : y.2.length = 2 ^ p) :
  stageG O (2 ^ q) (2 ^ (p + 1 - (q + 1))) tw (appP x y) = appP (stageG O (2 ^ q) (2 ^ (p - (q + 1))) tw x) (stageG O (2 ^ q) (2 ^ (p - (q + 1))) tw y) := by
 have e1 := pow_split (show q < p + 1 by omega)
 have e2 := pow_split hq
 have e3 : 2 ^ (p + 1) = 2 ^ p + 2 ^ p := by rw [Nat.pow_succ]; omega
 have hpos := Nat.two_pow_pos q
 obtain ⟨a1, a2, a⟩ := stageG_at O (2 ^ q) (2 ^ (p + 1 - (q + 1))) hpos tw (appP x y) (by simp only [appP, List.length_append]; rw [e1]; omega) (by simp only [appP, List.length_append]; rw [e1]; omega)
 obtain ⟨b1, b2, b⟩ := stageG_at O (2 ^ q) (2 ^ (p - (q + 1))) hpos tw x (by omega) (by omega)
 obtain ⟨c1, c2, c⟩ := stageG_at O (2 ^ q) (2 ^ (p - (q + 1))) hpos tw y (by omega) (by omega)
 rw [e1] at a
 rw [e2] at b c
 have hdvd : 2 ^ p % (2 * 2 ^ q) = 0 := by rw [← e2]; exact Nat.mul_mod_left _ _
 generalize stageG O (2 ^ q) (2 ^ (p + 1 - (q + 1))) tw (appP x y) = A at *
 generalize stageG O (2 ^ q) (2 ^ (p - (q + 1))) tw x = B at *
 generalize stageG O (2 ^ q) (2 ^ (p - (q + 1))) tw y = C at *
 generalize hH : 2 ^ q = H at *
 generalize hN : 2 ^ p = N at *
 have key : ∀ i, i < 2 ^ (p + 1) → (nthG O A.1 i, nthG O A.2 i) = (nthG O (appP B C).1 i, nthG O (appP B C).2 i) := fun i hi => by
  rw [a i, if_pos hi]
  have hnA : ∀ j, nthG O (appP x y).1 j = if j < N then nthG O x.1 j else nthG O y.1 (j - N) := fun j => by simp only [appP]; rw [nthG_app, h1]
  have hnB : ∀ j, nthG O (appP x y).2 j = if j < N then nthG O x.2 j else nthG O y.2 (j - N) := fun j => by simp only [appP]; rw [nthG_app, h2]
  have hnC : nthG O (appP B C).1 i = if i < N then nthG O B.1 i else nthG O C.1 (i - N) := by simp only [appP]; rw [nthG_app, b1, h1]
  have hnD : nthG O (appP B C).2 i = if i < N then nthG O B.2 i else nthG O C.2 (i - N) := by simp only [appP]; rw [nthG_app, b2, h2]
  rw [hnC, hnD]
  -- the place within its merge
  have hr : i % (2 * H) < 2 * H := Nat.mod_lt _ (by omega)
  by_cases c0 : i < N
  ·rw [if_pos c0, if_pos c0, b i, if_pos c0]
   unfold stageAt
   have hin : i - i % (2 * H) + 2 * H ≤ N := by
    have hd : N / (2 * H) * (2 * H) = N := Nat.div_mul_cancel (Nat.dvd_of_mod_eq_zero hdvd)
    have hi2 : i - i % (2 * H) = i / (2 * H) * (2 * H) := by have := Nat.div_add_mod' i (2 * H); omega
    have hlt : i / (2 * H) < N / (2 * H) := by
     apply Nat.lt_of_mul_lt_mul_right (a := 2 * H)
     rw [hd]; have := Nat.div_mul_le_self i (2 * H); omega
    have hm : (i / (2 * H) + 1) * (2 * H) ≤ N / (2 * H) * (2 * H) := Nat.mul_le_mul_right _ hlt
    rw [Nat.succ_mul (i / (2 * H))] at hm; omega
   have hle := Nat.mod_le i (2 * H)
   by_cases cr : i % (2 * H) < H
   ·rw [if_pos cr, if_pos cr, hnA, hnB, hnA, hnB, if_pos c0, if_pos c0, if_pos (by omega), if_pos (by omega)]
   ·rw [if_neg cr, if_neg cr, hnA, hnB, hnA, hnB, if_pos c0, if_pos c0, if_pos (by omega), if_pos (by omega)]
  ·rw [if_neg c0, if_neg c0, c (i - N), if_pos (by omega)]
   have em : (i - N) % (2 * H) = i % (2 * H) := by
    have hd : N / (2 * H) * (2 * H) = N := Nat.div_mul_cancel (Nat.dvd_of_mod_eq_zero hdvd)
    have : i % (2 * H) = ((i - N) + N / (2 * H) * (2 * H)) % (2 * H) := by rw [hd]; congr 1; omega
    rw [this, Nat.add_mul_mod_self_right]
   have hle := Nat.mod_le (i - N) (2 * H)
   unfold stageAt
   rw [em]
   by_cases cr : i % (2 * H) < H
   ·rw [if_pos cr, if_pos cr, hnA, hnB, hnA, hnB, if_neg c0, if_neg c0, if_neg (by omega), if_neg (by omega), show i + H - N = i - N + H from by omega]
   ·rw [if_neg cr, if_neg cr, hnA, hnB, hnA, hnB, if_neg c0, if_neg c0, if_neg (by omega), if_neg (by omega), show i - H - N = i - N - H from by omega]
 have lA : A.1.length = 2 ^ (p + 1) := by rw [a1]; simp [appP]; omega
 have lB : A.2.length = 2 ^ (p + 1) := by rw [a2]; simp [appP]; omega
 apply Prod.ext
 ·refine ext_nth O (by rw [lA]; simp [appP]; omega) fun i hi => ?_
  have := key i (by omega); simp only [Prod.mk.injEq] at this; exact this.1
 ·refine ext_nth O (by rw [lB]; simp [appP]; omega) fun i hi => ?_
  have := key i (by omega); simp only [Prod.mk.injEq] at this; exact this.2
theorem stages_app (p : Nat) (tw : Nat → Nat → Nat × Nat) (x y : List α × List α) (h1 : x.1.length = 2 ^ p) (h2 : x.2.length = 2 ^ p) (h3 : y.1.length = 2 ^ p) (h4 : y.2.length = 2 ^ p) (n : Nat) (hn : n ≤ p) :
  stages O (p + 1) tw n (appP x y) = appP (stages O p tw n x) (stages O p tw n y) := by
 induction n with
 | zero => rfl
 | succ n ih =>
  have a := stages_len O tw h1 h2 (show n ≤ p by omega)
  have b := stages_len O tw h3 h4 (show n ≤ p by omega)
  have ih' := ih (by omega)
  unfold stages at ih' ⊢
  rw [loopN_succ, loopN_succ, loopN_succ, ih']
  exact stage_app O p n (by omega) (tw n) _ _ a.1 a.2 b.1 b.2
def mergeL (half : Nat) (tw : Nat → Nat × Nat) (e o : List α × List α) : List α × List α :=
 appP ((List.range half).map fun k => O.add (nthG O e.1 k) (tw1 O tw k (nthG O o.1 k) (nthG O o.2 k)).1, (List.range half).map fun k => O.add (nthG O e.2 k) (tw1 O tw k (nthG O o.1 k) (nthG O o.2 k)).2)
  ((List.range half).map fun k => O.sub (nthG O e.1 k) (tw1 O tw k (nthG O o.1 k) (nthG O o.2 k)).1, (List.range half).map fun k => O.sub (nthG O e.2 k) (tw1 O tw k (nthG O o.1 k) (nthG O o.2 k)).2)
theorem mergeG_app (half : Nat) (hp : 0 < half) (tw : Nat → Nat × Nat) (e o : List α × List α) (h1 : e.1.length = half) (h2 : e.2.length = half) (h3 : o.1.length = half) (h4 : o.2.length = half) :
  stageG O half 1 tw (appP e o) = mergeL O half tw e o := by
 obtain ⟨a1, a2, a⟩ := stageG_at O half 1 hp tw (appP e o) (by simp [appP]; omega) (by simp [appP]; omega)
 generalize stageG O half 1 tw (appP e o) = A at *
 have key : ∀ i, i < 2 * half → (nthG O A.1 i, nthG O A.2 i) = (nthG O (mergeL O half tw e o).1 i, nthG O (mergeL O half tw e o).2 i) := fun i hi => by
  rw [a i, if_pos (by omega)]
  have hnA : ∀ j, nthG O (appP e o).1 j = if j < half then nthG O e.1 j else nthG O o.1 (j - half) := fun j => by simp only [appP]; rw [nthG_app, h1]
  have hnB : ∀ j, nthG O (appP e o).2 j = if j < half then nthG O e.2 j else nthG O o.2 (j - half) := fun j => by simp only [appP]; rw [nthG_app, h2]
  unfold stageAt
  simp only [mergeL, appP, nthG_app, List.length_map, List.length_range]
  rw [Nat.mod_eq_of_lt hi]
  by_cases c : i < half
  ·rw [if_pos c, if_pos c, if_pos c, nthG_map O _ c, nthG_map O _ c]
   have q1 := hnA i; have q2 := hnB i; have q3 := hnA (i + half); have q4 := hnB (i + half)
   simp only [appP] at q1 q2 q3 q4
   rw [← nthG_app, ← nthG_app] at *
   rw [if_pos c] at q1 q2
   rw [if_neg (by omega), show i + half - half = i from by omega] at q3 q4
   simp only [nthG_app, h1, h2, if_pos c, show ¬ (i + half < half) from by omega, if_false, show i + half - half = i from by omega]
   rfl
  ·rw [if_neg c, if_neg c, if_neg c, nthG_map O _ (by omega), nthG_map O _ (by omega)]
   simp only [h1, h2, if_neg c, if_pos (show i - half < half by omega)]
   rfl
 have lA : A.1.length = 2 * half := by rw [a1]; simp [appP]; omega
 have lB : A.2.length = 2 * half := by rw [a2]; simp [appP]; omega
 apply Prod.ext
 ·refine ext_nth O (by rw [lA]; simp [mergeL, appP]; omega) fun i hi => ?_
  have := key i (by omega); simp only [Prod.mk.injEq] at this; exact this.1
 ·refine ext_nth O (by rw [lB]; simp [mergeL, appP]; omega) fun i hi => ?_
  have := key i (by omega); simp only [Prod.mk.injEq] at this; exact this.2
end M1
namespace M2
open M0 M1
variable {α : Type} (O : Ops α)
def evenG (l : List α) : List α := (List.range ((l.length + 1) / 2)).map fun i => nthG O l (2 * i)
def oddG (l : List α) : List α := (List.range (l.length / 2)).map fun i => nthG O l (2 * i + 1)
def gatherG (order : List Nat) (l : List α) : List α := order.map (nthG O l)
structure Inv (order : List Nat) (n : Nat) : Prop where
 len : order.length = n
 lt : ∀ k, k < n → order.getD k 0 < n
 back : ∀ k, k < n → order.getD (order.getD k 0) 0 = k
theorem swap_gather (order : List Nat) (l : List α) (h : Inv order l.length) : swapG O order l = gatherG O order l := by
 have key := loopN_inv (f := fun k l => swapAt O l k (order.getD k 0)) (I := fun k (s : List α) => s.length = l.length ∧ ∀ i, i < l.length → nthG O s i = if i < k ∨ order.getD i 0 < k then nthG O l (order.getD i 0) else nthG O l i) order.length (s := l)
  ⟨rfl, fun i hi => by rw [if_neg (by omega)]⟩ (by
  rintro k s hk ⟨l1, hs⟩
  have hk' : k < l.length := by rw [← h.len]; exact hk
  have hak := h.lt k hk'
  have hbk := h.back k hk'
  show (swapAt O s k (order.getD k 0)).length = _ ∧ _
  generalize ha : order.getD k 0 = a at *
  unfold swapAt
  by_cases c : k < a
  ·rw [if_pos c]
   refine ⟨by simp [l1], fun i hi => ?_⟩
   have hsk := hs k hk'
   rw [ha, if_neg (by omega)] at hsk
   have hsa := hs a hak
   rw [hbk, if_neg (by omega)] at hsa
   rw [nthG_set, nthG_set, List.length_set, l1]
   by_cases e1 : a = i
   ·subst e1
    simp only [true_and, hak, if_true]
    rw [hsk, hbk, if_pos (by omega)]
   ·simp only [e1, false_and, if_false]
    by_cases e2 : k = i
    ·subst e2
     simp only [true_and, hk', if_true]
     rw [hsa, ha, if_pos (by omega)]
    ·simp only [e2, false_and, if_false]
     rw [hs i hi]
     have hne : order.getD i 0 ≠ k := fun e => e1 (by have := h.back i hi; rw [e, ha] at this; exact this)
     by_cases d : i < k ∨ order.getD i 0 < k
     ·rw [if_pos d, if_pos (by omega)]
     ·rw [if_neg d, if_neg (by omega)]
  ·rw [if_neg c]
   refine ⟨l1, fun i hi => ?_⟩
   rw [hs i hi]
   by_cases d : i < k ∨ order.getD i 0 < k
   ·rw [if_pos d, if_pos (by omega)]
   ·rw [if_neg d]
    by_cases d2 : i < k + 1 ∨ order.getD i 0 < k + 1
    ·rw [if_pos d2]
     -- i = k or its place is k: then a = k
     have hi2 := h.back i hi
     have : order.getD i 0 = i := by
      rcases (show i = k ∨ order.getD i 0 = k by omega) with e | e
      ·subst e
       rw [ha]; rw [ha] at d hi2
       omega
      ·rw [e, ha] at hi2
       omega
     rw [this]
    ·rw [if_neg d2])
 obtain ⟨l1, hs⟩ := key
 refine ext_nth O (by unfold gatherG; rw [List.length_map, h.len]; exact l1) fun i hi => ?_
 have hi' : i < l.length := by unfold swapG at hi; omega
 have := hs i hi'
 rw [h.len, if_pos (.inl hi')] at this
 unfold swapG
 rw [h.len, this]
 unfold gatherG
 have hio : i < order.length := by rw [h.len]; exact hi'
 symm
 show (order.map (nthG O l)).getD i (O.lit 0) = _
 rw [List.getD_eq_getElem?_getD, List.getElem?_map, List.getD_eq_getElem?_getD, List.getElem?_eq_getElem hio]
 rfl
def invOk (p : Nat) : Bool :=
 let l := bitsG p
 l.length == 2 ^ p && (List.range (2 ^ p)).all (fun k => decide (l.getD k 0 < 2 ^ p) && l.getD (l.getD k 0) 0 == k)
theorem inv_ok : ∀ p : Fin 8, invOk p.val = true := by decide +kernel
theorem inv_bits {p : Nat} (hp : p ≤ 7) : Inv (bitsG p) (2 ^ p) := by
 have h := inv_ok ⟨p, by omega⟩
 unfold invOk at h
 simp only [Bool.and_eq_true, beq_iff_eq, List.all_eq_true, List.mem_range, decide_eq_true_eq] at h
 exact ⟨h.1, fun k hk => (h.2 k hk).1, fun k hk => (h.2 k hk).2⟩
theorem bits_rec : ∀ p : Fin 7, bitsG (p.val + 1) = (bitsG p.val).map (2 * ·) ++ (bitsG p.val).map (2 * · + 1) := by decide +kernel
theorem bits_mem {p : Nat} (hp : p ≤ 7) {k : Nat} (h : k ∈ bitsG p) : k < 2 ^ p := by
 obtain ⟨i, hi, e⟩ := List.getElem_of_mem h
 have I := inv_bits hp
 have := I.lt i (by rw [← I.len]; exact hi)
 simp [List.getD_eq_getElem?_getD, List.getElem?_eq_getElem hi, e] at this
 exact this
theorem evenG_len (l : List α) : (evenG O l).length = (l.length + 1) / 2 := by simp [evenG]
theorem oddG_len (l : List α) : (oddG O l).length = l.length / 2 := by simp [oddG]
theorem nthG_even (l : List α) {i : Nat} (h : i < (l.length + 1) / 2) : nthG O (evenG O l) i = nthG O l (2 * i) := nthG_map O _ h
theorem nthG_odd (l : List α) {i : Nat} (h : i < l.length / 2) : nthG O (oddG O l) i = nthG O l (2 * i + 1) := nthG_map O _ h
theorem gather_rec {p : Nat} (hp : p ≤ 6) (l : List α) (hl : l.length = 2 ^ (p + 1)) : gatherG O (bitsG (p + 1)) l = gatherG O (bitsG p) (evenG O l) ++ gatherG O (bitsG p) (oddG O l) := by
 have e := bits_rec ⟨p, by omega⟩
 dsimp only at e
 rw [Nat.pow_succ] at hl
 unfold gatherG
 rw [e, List.map_append, List.map_map, List.map_map]
 congr 1
 ·refine List.map_congr_left fun k hk => ?_
  have := bits_mem (show p ≤ 7 by omega) hk
  exact (nthG_even O l (by omega)).symm
 ·refine List.map_congr_left fun k hk => ?_
  have := bits_mem (show p ≤ 7 by omega) hk
  exact (nthG_odd O l (by omega)).symm
def recG (tw : Nat → Nat → Nat × Nat) : Nat → List α × List α → List α × List α
 | 0, st => st
 | p + 1, st => mergeL O (2 ^ p) (tw p) (recG tw p (evenG O st.1, evenG O st.2)) (recG tw p (oddG O st.1, oddG O st.2))
theorem gather_len {p : Nat} (hp : p ≤ 7) (l : List α) : (gatherG O (bitsG p) l).length = 2 ^ p := by
 unfold gatherG; rw [List.length_map, (inv_bits hp).len]
theorem stages_rec (tw : Nat → Nat → Nat × Nat) {p : Nat} (hp : p ≤ 7) (st : List α × List α) (h1 : st.1.length = 2 ^ p) (h2 : st.2.length = 2 ^ p) :
  stages O p tw p (gatherG O (bitsG p) st.1, gatherG O (bitsG p) st.2) = recG O tw p st := by
 induction p generalizing st with
 | zero =>
  have e : bitsG 0 = [0] := by decide
  have one : ∀ l : List α, l.length = 2 ^ 0 → gatherG O (bitsG 0) l = l := fun l hl => by
   rw [e]
   match l, hl with
   | [x], _ => rfl
  show (_, _) = st
  rw [one _ h1, one _ h2]
 | succ p ih =>
  have e3 : 2 ^ (p + 1) = 2 ^ p + 2 ^ p := by rw [Nat.pow_succ]; omega
  have hpos := Nat.two_pow_pos p
  rw [gather_rec O (by omega) _ h1, gather_rec O (by omega) _ h2]
  have le : ∀ l : List α, l.length = 2 ^ (p + 1) → (evenG O l).length = 2 ^ p ∧ (oddG O l).length = 2 ^ p := fun l hl => by
   rw [evenG_len, oddG_len]; omega
  have sa := stages_app O p tw (gatherG O (bitsG p) (evenG O st.1), gatherG O (bitsG p) (evenG O st.2)) (gatherG O (bitsG p) (oddG O st.1), gatherG O (bitsG p) (oddG O st.2))
   (gather_len O (by omega) _) (gather_len O (by omega) _) (gather_len O (by omega) _) (gather_len O (by omega) _) p (Nat.le_refl _)
  unfold appP at sa
  dsimp only at sa
  have ea := ih (by omega) (evenG O st.1, evenG O st.2) (le _ h1).1 (le _ h2).1
  have eo := ih (by omega) (oddG O st.1, oddG O st.2) (le _ h1).2 (le _ h2).2
  dsimp only at ea eo
  rw [ea, eo] at sa
  show stageG O (2 ^ p) (2 ^ (p + 1 - (p + 1))) (tw p) (stages O (p + 1) tw p _) = _
  rw [sa, Nat.sub_self, Nat.pow_zero]
  have la := stages_len O tw (st := (gatherG O (bitsG p) (evenG O st.1), gatherG O (bitsG p) (evenG O st.2))) (gather_len O (by omega) _) (gather_len O (by omega) _) (Nat.le_refl p)
  have lo := stages_len O tw (st := (gatherG O (bitsG p) (oddG O st.1), gatherG O (bitsG p) (oddG O st.2))) (gather_len O (by omega) _) (gather_len O (by omega) _) (Nat.le_refl p)
  rw [ea] at la
  rw [eo] at lo
  exact mergeG_app O (2 ^ p) hpos (tw p) _ _ la.1 la.2 lo.1 lo.2
theorem into_rec (tab : Nat → Nat × Nat) (tw : Nat → Nat → Nat × Nat) {p : Nat} (hp : p ≤ 7) (ht : ∀ q k, q < p → k < 2 ^ q → tab (k * 2 ^ (p - (q + 1))) = tw q k) (st : List α × List α) (h1 : st.1.length = 2 ^ p) (h2 : st.2.length = 2 ^ p) :
  intoG O (bitsG p) p tab st = recG O tw p st := by
 rw [← stages_rec O tw hp st h1 h2]
 unfold intoG stages
 rw [swap_gather O _ _ (by rw [h1]; exact inv_bits hp), swap_gather O _ _ (by rw [h2]; exact inv_bits hp)]
 refine loopN_congr _ _ fun q hq s => ?_
 exact stageG_congr O _ _ (fun k hk => ht q k hq hk) s
end M2
namespace W1
open Ieee Go Gp Gq Gr W0
structure Nm (x : Nat) : Prop where
 lt : x < 2 * sgnW
 fin : frung x < infR
 cl : cn x = x
theorem nm_zero : Nm 0 := ⟨by decide, by decide, cn_zero⟩
def R (v : Int) (s : Nat) : Nat := cn (double.word (decide (v < 0)) (min (rung v.natAbs s) infR))
theorem signed_V {x : Nat} (b : Int) (hb : -1074 ≤ b) (h : b ≤ (plc (frung x) : Int) - 1074) :
  signed (fneg x) (sig (frung x)) ((plc (frung x) : Int) - 1074 - b).toNat * 2 ^ (b + 1074).toNat = V x := by
 rw [signed_sv, ← sv_mul, V_sv, Nat.mul_assoc, ← Nat.pow_add, (rung_split (frung x)).2.2.2,
  show ((plc (frung x) : Int) - 1074 - b).toNat + (b + 1074).toNat = plc (frung x) from by omega]
theorem told_num (s : Bool) {m : Nat} (h : m ≠ 0) (p : Int) : told (some (.number s m p)) = cn (double.word s (min (rung (toX m p) (toS p)) infR)) := by
 show cn (double.nearest s m p) = _
 rw [nearest_rung s m p h]
theorem told_num0 (s : Bool) (p : Int) : told (some (.number s 0 p)) = 0 := by
 show cn (double.nearest s 0 p) = _
 unfold Format.nearest
 rw [if_pos rfl, word_parts s (Nat.zero_le _), if_pos rfl]
theorem R_zero (s : Nat) : R 0 s = 0 := by
 unfold R
 rw [show rung (0 : Int).natAbs s = 0 from by unfold rung; simp]
 decide
theorem sum_num (s1 s2 : Bool) (m1 m2 : Nat) (p1 p2 : Int) (h1 : -1074 ≤ p1) (h2 : -1074 ≤ p2) (v1 v2 : Int)
  (e1 : signed s1 m1 (p1 - min p1 p2).toNat * 2 ^ (min p1 p2 + 1074).toNat = v1) (e2 : signed s2 m2 (p2 - min p1 p2).toNat * 2 ^ (min p1 p2 + 1074).toNat = v2) :
  told ((Datum.number s1 m1 p1).sum (Datum.number s2 m2 p2)) = R (v1 + v2) 0 := by
 simp only [Datum.sum]
 obtain ⟨b, hb⟩ : ∃ b, b = min p1 p2 := ⟨_, rfl⟩
 rw [← hb] at e1 e2 ⊢
 have hb0 : -1074 ≤ b := by omega
 generalize signed s1 m1 (p1 - b).toNat = a at *
 generalize signed s2 m2 (p2 - b).toNat = c at *
 subst e1; subst e2
 rw [← Int.add_mul]
 generalize a + c = t
 have hpos : (0 : Int) < 2 ^ (b + 1074).toNat := by exact Int.pow_pos (by decide)
 by_cases h0 : t = 0
 ·subst h0
  rw [Int.natAbs_zero, told_num0, Int.zero_mul, R_zero]
 ·rw [if_neg h0, told_num _ (by omega)]
  unfold R
  have e3 : decide (t * 2 ^ (b + 1074).toNat < 0) = decide (t < 0) := by
   by_cases ht : t < 0
   ·rw [decide_eq_true ht, decide_eq_true (Int.mul_neg_of_neg_of_pos ht hpos)]
   ·rw [decide_eq_false ht, decide_eq_false (by have := Int.mul_nonneg (show 0 ≤ t by omega) (Int.le_of_lt hpos); omega)]
  rw [e3, show toS b = 0 from by unfold toS; omega, show toX t.natAbs b = (t * 2 ^ (b + 1074).toNat).natAbs from by
   unfold toX; rw [Int.natAbs_mul, Int.natAbs_pow]; rfl]
theorem fadd_fin {x y : Nat} (hx : Nm x) (hy : Nm y) : fadd x y = R (V x + V y) 0 := by
 unfold fadd
 rw [read_fin hx.lt hx.fin, read_fin hy.lt hy.fin]
 exact sum_num _ _ _ _ _ _ (by omega) (by omega) _ _ (signed_V _ (by omega) (by omega)) (signed_V _ (by omega) (by omega))
theorem signed_neg (s : Bool) (m k : Nat) : signed (!s) m k = - signed s m k := by
 rw [signed_sv, signed_sv]; unfold sv; cases s <;> simp
theorem fsub_fin {x y : Nat} (hx : Nm x) (hy : Nm y) : fsub x y = R (V x - V y) 0 := by
 unfold fsub
 rw [read_fin hx.lt hx.fin, read_fin hy.lt hy.fin]
 rw [Int.sub_eq_add_neg]
 refine sum_num _ _ _ _ _ _ (by omega) (by omega) _ _ (signed_V _ (by omega) (by omega)) ?_
 rw [signed_neg, Int.neg_mul, signed_V _ (by omega) (by omega)]
theorem fmul_fin' {x y c : Nat} (hc : c = 1074) (hx : Nm x) (hy : Nm y) : fmul x y = R (V x * V y) c := by
 unfold fmul
 rw [read_fin hx.lt hx.fin, read_fin hy.lt hy.fin]
 simp only [Datum.product]
 have e1 := (rung_split (frung x)).2.2.2
 have e2 := (rung_split (frung y)).2.2.2
 have ev : (V x * V y).natAbs = sig (frung x) * sig (frung y) * 2 ^ (plc (frung x) + plc (frung y)) := by
  rw [V_sv, V_sv, Int.natAbs_mul, sv_abs, sv_abs, e1, e2, Nat.pow_add]
  rw [Nat.mul_assoc, Nat.mul_left_comm (2 ^ _), ← Nat.mul_assoc]
 have es : (V x * V y).natAbs ≠ 0 → decide (V x * V y < 0) = (fneg x ^^ fneg y) := fun h0 => by
  rw [V_sv, V_sv] at h0 ⊢
  generalize mag (frung x) = a at *
  generalize mag (frung y) = b at *
  rw [Int.natAbs_mul, sv_abs, sv_abs] at h0
  have h1 : (0 : Int) < (a : Int) * b := by
   have : (0 : Int) < ((a * b : Nat) : Int) := by exact_mod_cast Nat.pos_of_ne_zero h0
   rw [Int.natCast_mul] at this; exact this
  unfold sv
  cases fneg x <;> cases fneg y <;> simp [Int.neg_mul, Int.mul_neg] <;> omega
 generalize sig (frung x) * sig (frung y) = m at *
 generalize plc (frung x) = p at *
 generalize plc (frung y) = q at *
 by_cases h0 : m = 0
 ·subst h0
  rw [told_num0]
  have : V x * V y = 0 := by rw [Nat.zero_mul] at ev; omega
  rw [this, R_zero]
 ·rw [told_num _ h0]
  have hv : (V x * V y).natAbs ≠ 0 := by rw [ev]; exact Nat.mul_ne_zero h0 (Nat.ne_of_gt (Nat.two_pow_pos _))
  unfold R
  rw [es hv, ev]
  congr 3
  unfold toX toS
  by_cases hp : 0 ≤ (p : Int) - 1074 + (q - 1074) + 1074
  ·rw [show (-1074 - ((p : Int) - 1074 + (q - 1074))).toNat = 0 from by omega]
   rw [← rung_scale _ 0 c, Nat.zero_add, Nat.mul_assoc, ← Nat.pow_add]
   congr 3; omega
  ·rw [show ((p : Int) - 1074 + (q - 1074) + 1074).toNat = 0 from by omega, Nat.pow_zero, Nat.mul_one]
   rw [← rung_scale m _ (p + q), show (-1074 - ((p : Int) - 1074 + (q - 1074))).toNat + (p + q) = c from by omega]
theorem fmul_fin {x y : Nat} (hx : Nm x) (hy : Nm y) : fmul x y = R (V x * V y) 1074 := fmul_fin' rfl hx hy
theorem R_facts (v : Int) (s : Nat) : R v s < 2 * sgnW ∧ cn (R v s) = R v s ∧ frung (R v s) = min (rung v.natAbs s) infR := by
 have hl : min (rung v.natAbs s) infR < sgnW := Nat.lt_of_le_of_lt (Nat.min_le_right _ _) infR_lt
 refine ⟨cn_lt (word_lt2 _ hl), cn_idem _, ?_⟩
 unfold R
 rw [word_parts _ (Nat.min_le_right _ _)]
 split
 ·rename_i h; rw [h]; decide
 ·exact (word_neg _ hl).2
theorem R_nm {v : Int} {s : Nat} (h : rung v.natAbs s < infR) : Nm (R v s) := by
 obtain ⟨h1, h2, h3⟩ := R_facts v s
 exact ⟨h1, by rw [h3]; omega, h2⟩
theorem V_R (v : Int) (s : Nat) : V (R v s) = sv (decide (v < 0)) (mag (min (rung v.natAbs s) infR)) := by
 have hl : min (rung v.natAbs s) infR < sgnW := Nat.lt_of_le_of_lt (Nat.min_le_right _ _) infR_lt
 unfold R
 rw [word_parts _ (Nat.min_le_right _ _)]
 split
 ·rename_i h; rw [h, mag_zero]; unfold sv; cases decide (v < 0) <;> decide
 ·exact V_word _ hl
theorem sv_self (v : Int) : sv (decide (v < 0)) v.natAbs = v := by
 unfold sv; by_cases h : v < 0 <;> simp [h] <;> omega
theorem V_exact {v : Int} {s r : Nat} (h : v.natAbs = mag r * 2 ^ s) (hr : r ≤ infR) : V (R v s) * 2 ^ s = v := by
 rw [V_R, h, rung_exact, Nat.min_eq_left hr, ← sv_mul, ← h, sv_self]
theorem R_exact {v : Int} {s r : Nat} (h : v.natAbs = mag r * 2 ^ s) (hr : r < infR) : Nm (R v s) ∧ V (R v s) * 2 ^ s = v :=
 ⟨R_nm (by rw [h, rung_exact]; exact hr), V_exact h (Nat.le_of_lt hr)⟩
theorem nm_inj {x y : Nat} (hx : Nm x) (hy : Nm y) (h : V x = V y) : x = y := by
 by_cases h0 : frung x = 0
 ·have h1 : frung y = 0 := V_zero_iff.1 (h ▸ V_zero_iff.2 h0)
  have a := hx.cl; have b := hy.cl
  unfold cn at a b
  rw [if_neg (by rw [h0]; decide), if_pos h0] at a
  rw [if_neg (by rw [h1]; decide), if_pos h1] at b
  omega
 ·exact V_inj hx.lt hy.lt h h0
theorem V_abs (x : Nat) : (V x).natAbs = mag (frung x) := by rw [V_sv, sv_abs]
theorem R_self {x : Nat} (hx : Nm x) : R (V x) 0 = x := by
 obtain ⟨h1, h2⟩ := R_exact (v := V x) (s := 0) (r := frung x) (by rw [V_abs]; simp) hx.fin
 exact nm_inj h1 hx (by simpa using h2)
theorem fadd_zero {x : Nat} (hx : Nm x) : fadd x 0 = x := by rw [fadd_fin hx nm_zero, show V 0 = 0 from by decide, Int.add_zero, R_self hx]
theorem fsub_zero {x : Nat} (hx : Nm x) : fsub x 0 = x := by rw [fsub_fin hx nm_zero, show V 0 = 0 from by decide, Int.sub_zero, R_self hx]
theorem fsub_self {x : Nat} (hx : Nm x) : fsub x x = 0 := by rw [fsub_fin hx hx, Int.sub_self, R_zero]
theorem zero_fmul {x : Nat} (hx : Nm x) : fmul 0 x = 0 := by rw [fmul_fin nm_zero hx, show V 0 = 0 from by decide, Int.zero_mul, R_zero]
theorem fng_facts {x : Nat} (hx : Nm x) : Nm (fng x) ∧ V (fng x) = - V x := by
 have e := xor_top' x hx.lt
 have hl := (word_split hx.lt).2
 have hf : fng x = cn (double.word (!fneg x) (frung x)) := by unfold fng; rw [e]
 rw [word_parts _ (Nat.le_of_lt hx.fin)] at hf
 by_cases h0 : frung x = 0
 ·rw [if_pos h0] at hf
  rw [hf, V_zero_iff.2 h0]
  exact ⟨nm_zero, by decide⟩
 ·rw [if_neg h0] at hf
  refine ⟨⟨fng_lt hx.lt, ?_, cn_fng x⟩, ?_⟩
  ·rw [hf, (word_neg _ hl).2]; exact hx.fin
  ·rw [hf, V_word _ hl, V_sv]; unfold sv; cases fneg x <;> simp
theorem fng_fng {x : Nat} (hx : Nm x) : fng (fng x) = x := by
 obtain ⟨h1, h2⟩ := fng_facts hx
 obtain ⟨h3, h4⟩ := fng_facts h1
 exact nm_inj h3 hx (by rw [h4, h2]; omega)
end W1
namespace W2
open Ieee Go Gp Gq Gr W0 W1
def P2 (e : Nat) : Nat := e * bn
theorem mag_P2 {e c : Nat} (hc : c = e - 1) (h : 1 ≤ e) : mag (P2 e) = 2 ^ (52 + c) := by
 subst hc
 have := mag_at (e - 1) bn (by unfold bn; omega) (.inr (Nat.le_refl _))
 rw [show (e - 1) * bn + bn = P2 e from by unfold P2; rw [← Nat.succ_mul, Nat.succ_eq_add_one, Nat.sub_add_cancel h]] at this
 rw [this, bn_eq, ← Nat.pow_add]
theorem P2_facts {e : Nat} (h : 1 ≤ e) (h2 : e ≤ 2046) : Nm (P2 e) ∧ frung (P2 e) = P2 e := by
 have hb : P2 e < infR := by unfold P2 infR bn; omega
 have hl : P2 e < sgnW := Nat.lt_trans hb infR_lt
 have hf : frung (P2 e) = P2 e := Nat.mod_eq_of_lt hl
 refine ⟨⟨by omega, by rw [hf]; exact hb, ?_⟩, hf⟩
 unfold cn
 rw [hf, if_neg (by omega), if_neg (by unfold P2 bn; omega)]
theorem V_P2 {e c : Nat} (hc : c = e + 51) (h : 1 ≤ e) (h2 : e ≤ 2046) : V (P2 e) = 2 ^ c := by
 obtain ⟨hn, hf⟩ := P2_facts h h2
 have hl : P2 e < sgnW := by have := hn.fin; rw [hf] at this; exact Nat.lt_trans this infR_lt
 rw [V_pos_word hl, mag_P2 rfl h, show 52 + (e - 1) = c from by omega]
 push_cast; rfl
theorem R_scale (v : Int) (s k : Nat) : R (v * 2 ^ k) (s + k) = R v s := by
 unfold R
 rw [Int.natAbs_mul, show ((2 : Int) ^ k).natAbs = 2 ^ k from by rw [Int.natAbs_pow]; rfl, rung_scale]
 have hpos : (0 : Int) < 2 ^ k := Int.pow_pos (by decide)
 have e3 : decide (v * 2 ^ k < 0) = decide (v < 0) := by
  by_cases ht : v < 0
  ·rw [decide_eq_true ht, decide_eq_true (Int.mul_neg_of_neg_of_pos ht hpos)]
  ·rw [decide_eq_false ht, decide_eq_false (by have := Int.mul_nonneg (show 0 ≤ v by omega) (Int.le_of_lt hpos); omega)]
 rw [e3]
theorem fmul_down {x p : Nat} (hx : Nm x) (hp : p ≤ 1022) : fmul x (P2 (1023 - p)) = R (V x) p := by
 rw [fmul_fin hx (P2_facts (by omega) (by omega)).1, V_P2 (c := 1074 - p) (by omega) (by omega) (by omega)]
 have := R_scale (V x) p (1074 - p)
 rwa [show p + (1074 - p) = 1074 from by omega] at this
theorem cls {x : Nat} (h : x < 2 * sgnW) (hc : cn x = x) : Nm x ∨ frung x = infR ∨ x = qn := by
 rcases Nat.lt_trichotomy (frung x) infR with q | q | q
 ·exact .inl ⟨h, q, hc⟩
 ·exact .inr (.inl q)
 ·exact .inr (.inr (by rw [← hc]; exact cn_nan q))
theorem read_P2 {e : Nat} (h : 1 ≤ e) (h2 : e ≤ 2046) : double.read (P2 e) = .number false bn ((e : Int) - 1075) := by
 obtain ⟨hn, hf⟩ := P2_facts h h2
 rw [read_fin hn.lt hn.fin, hf]
 have h1 : fneg (P2 e) = false := by
  unfold fneg; apply decide_eq_false; have := hn.fin; rw [hf] at this; have := infR_lt; omega
 have h3 : sig (P2 e) = bn := by
  unfold sig P2
  rw [if_neg (by have := Nat.mul_le_mul_right bn h; omega), Nat.mul_mod_left, Nat.add_zero]
 have h4 : plc (P2 e) = e - 1 := by
  unfold plc P2; rw [Nat.mul_div_cancel _ (by decide)]
 rw [h1, h3, h4]
 congr 1; omega
theorem told_shift (s : Bool) (m k : Nat) (p : Int) : told (some (.number s (m * 2 ^ k) (p - k))) = told (some (.number s m p)) := by
 by_cases h0 : m = 0
 ·subst h0; rw [Nat.zero_mul, told_num0, told_num0]
 ·rw [told_num s h0, told_num s (Nat.mul_ne_zero h0 (Nat.ne_of_gt (Nat.two_pow_pos _)))]
  congr 3
  unfold toX toS
  by_cases h1 : 0 ≤ p - k + 1074
  ·rw [show (-1074 - (p - (k : Int))).toNat = 0 from by omega, show (-1074 - p).toNat = 0 from by omega, Nat.mul_assoc, ← Nat.pow_add]
   congr 3; omega
  ·rw [show (p - (k : Int) + 1074).toNat = 0 from by omega, Nat.pow_zero, Nat.mul_one]
   by_cases h2 : 0 ≤ p + 1074
   ·rw [show (-1074 - p).toNat = 0 from by omega]
    have := rung_scale (m * 2 ^ (p + 1074).toNat) 0 (-1074 - (p - (k : Int))).toNat
    rw [← this, Nat.mul_assoc, ← Nat.pow_add]
    congr 3 <;> omega
   ·rw [show (p + 1074).toNat = 0 from by omega, Nat.pow_zero, Nat.mul_one]
    have := rung_scale m (-1074 - p).toNat k
    rw [← this]
    congr 1; omega
theorem fdiv_P2 {x p : Nat} (h : x < 2 * sgnW) (hc : cn x = x) (hp : p ≤ 1022) : fdiv x (P2 (1023 + p)) = fmul x (P2 (1023 - p)) := by
 unfold fdiv fmul
 rw [read_P2 (by omega) (by omega), read_P2 (by omega) (by omega)]
 rcases cls h hc with hx | hx | rfl
 ·rw [read_fin hx.lt hx.fin]
  simp only [Datum.quotient, Datum.product, Bool.xor_false, show bn ≠ 0 from by decide, if_false]
  have hs := (rung_split (frung x)).2.1
  generalize sig (frung x) = m at *
  have hfb : double.fractionBits = 52 := rfl
  have hlb : Nat.log2 bn = 52 := by decide
  rw [hfb, hlb]
  have hl : Nat.log2 m ≤ 52 := by
   by_cases h0 : m = 0
   ·subst h0; decide
   ·have : Nat.log2 m < 53 := (Nat.log2_lt h0).2 (by unfold bn at hs; omega)
    omega
  obtain ⟨e, he⟩ : ∃ e, 52 + 2 + 52 - Nat.log2 m = 52 + e := ⟨54 - Nat.log2 m, by omega⟩
  rw [he, Nat.shiftLeft_eq, Nat.pow_add, ← bn_eq, Nat.mul_comm bn, ← Nat.mul_assoc, Nat.mul_mod_left, Nat.mul_div_cancel _ (by decide)]
  simp only [bne_self_eq_false, Bool.toNat_false, Nat.add_zero]
  have a1 := told_shift (fneg x) m (e + 1) ((plc (frung x) : Int) - 1074 - p)
  have a2 := told_shift (fneg x) m 52 ((plc (frung x) : Int) - 1074 - p)
  rw [← bn_eq] at a2
  have e1 : (plc (frung x) : Int) - 1074 - (((1023 + p : Nat) : Int) - 1075) - ((52 + e : Nat) : Int) - 1 = (plc (frung x) : Int) - 1074 - p - ((e + 1 : Nat) : Int) := by omega
  have e2 : (plc (frung x) : Int) - 1074 + (((1023 - p : Nat) : Int) - 1075) = (plc (frung x) : Int) - 1074 - p - ((52 : Nat) : Int) := by omega
  rw [e1, e2, a2, ← a1, Nat.pow_succ]
  congr 3
  rw [Nat.mul_comm 2, Nat.mul_assoc]
 ·rw [read_inf h hx]
  simp [Datum.quotient, Datum.product, show bn ≠ 0 from by decide]
 ·rfl
theorem quo_dq {k : Nat} {x x' y y' : Datum} (h : dq x x') (g : dq y y') (h0 : ∀ s e, y ≠ .number s 0 e) : odq (x.quotient k y) (x'.quotient k y') := by
 cases x <;> cases x' <;> simp [dq] at h <;> cases y <;> cases y' <;> simp [dq] at g <;> try (simp [Datum.quotient, odq, dq]; done)
 ·rename_i s m e t n f s2 m2 e2 t2 n2 f2
  obtain ⟨rfl, rfl, h⟩ := h
  obtain ⟨rfl, rfl, g⟩ := g
  have hn0 : m2 ≠ 0 := fun e => h0 _ _ (by rw [e])
  rcases g with g | rfl
  ·exact (hn0 g).elim
  simp only [Datum.quotient, if_neg hn0, odq, dq]
  refine ⟨⟨trivial, trivial, ?_⟩, by simp⟩
  rcases h with rfl | rfl
  ·left; simp
  ·right; rfl
 ·rename_i s t s2 m e t2 n f
  subst h
  obtain ⟨rfl, rfl, g⟩ := g
  have hn0 : m ≠ 0 := fun e => h0 _ _ (by rw [e])
  rcases g with g | rfl
  ·exact (hn0 g).elim
  simp [Datum.quotient, odq, dq]
theorem fdiv_cn {a e : Nat} (ha : a < 2 * sgnW) (h : 1 ≤ e) (h2 : e ≤ 2046) : fdiv (cn a) (P2 e) = fdiv a (P2 e) := by
 unfold fdiv
 rw [read_P2 h h2]
 refine (told_odq (quo_dq (read_cn ha) (dq_refl _) ?_)).symm
 rintro s e' h
 have := congrArg (fun d => match d with | Datum.number _ m _ => m | _ => 1) h
 simp at this
 exact absurd this (by decide)
def pw (x k : Nat) : Nat := R (V x * 2 ^ k) 0
structure Up (x n : Nat) : Prop where
 nm : Nm x
 ok : V x = 0 ∨ (bn ≤ frung x ∧ frung x + n * bn < infR)
theorem Up.mono {x n m : Nat} (h : Up x n) (hm : m ≤ n) : Up x m := ⟨h.nm, h.ok.imp id fun ⟨a, b⟩ => ⟨a, by have := Nat.mul_le_mul_right bn hm; omega⟩⟩
theorem pw_ok {x n k : Nat} (h : Up x n) (hk : k ≤ n) : Nm (pw x k) ∧ V (pw x k) = V x * 2 ^ k := by
 unfold pw
 rcases h.ok with h0 | ⟨h1, h2⟩
 ·rw [h0, Int.zero_mul, R_zero]; exact ⟨nm_zero, by decide⟩
 ·have hkb : k * bn ≤ n * bn := Nat.mul_le_mul_right _ hk
  obtain ⟨a, b⟩ := R_exact (v := V x * 2 ^ k) (s := 0) (r := frung x + k * bn) (by
   rw [mag_up k h1, Int.natAbs_mul, V_abs, show ((2 : Int) ^ k).natAbs = 2 ^ k from by rw [Int.natAbs_pow]; rfl]; simp) (by omega)
  exact ⟨a, by simpa using b⟩
theorem pw_zero {x : Nat} (h : Nm x) : pw x 0 = x := by unfold pw; rw [Int.pow_zero, Int.mul_one, R_self h]
theorem pw_add {x n k : Nat} (h : Up x n) (hk : k + 1 ≤ n) : fadd (pw x k) (pw x k) = pw x (k + 1) := by
 obtain ⟨a, b⟩ := pw_ok h (show k ≤ n by omega)
 rw [fadd_fin a a, b]; unfold pw; rw [Int.pow_succ, ← Int.mul_assoc, show V x * 2 ^ k + V x * 2 ^ k = V x * 2 ^ k * 2 from by omega]
theorem pw_sub {x n k : Nat} (h : Up x n) (hk : k ≤ n) : fsub (pw x k) (pw x k) = 0 := fsub_self (pw_ok h hk).1
theorem pw_down {x n k : Nat} (h : Up x n) (hk : k ≤ n) (hk2 : k ≤ 1022) : fmul (pw x k) (P2 (1023 - k)) = x := by
 obtain ⟨a, b⟩ := pw_ok h hk
 rw [fmul_down a hk2, b]
 have := R_scale (V x) 0 k
 rw [Nat.zero_add] at this
 rw [this, R_self h.nm]
end W2
namespace M3
open Gp W0 W1 W2 M0 M1 M2
def opsN : Ops Nat := ⟨fadd, fsub, fmul, fng, fun n => n⟩
def TwOk (tw : Nat → Nat → Nat × Nat) (p : Nat) : Prop := ∀ q k, q < p → k < 2 ^ q → Nm (tw q k).1 ∧ Nm (tw q k).2
def delta (n a : Nat) : List Nat := (List.range n).map fun i => if i = 0 then a else 0
theorem delta_len (n a : Nat) : (delta n a).length = n := by simp [delta]
theorem nth_delta {n a i : Nat} (h : i < n) : nthG opsN (delta n a) i = if i = 0 then a else 0 := nthG_map opsN _ h
theorem nth_rep {n a i : Nat} (h : i < n) : nthG opsN (List.replicate n a) i = a := by
 rw [nthG_lt _ (by simpa using h)]; simp
theorem even_rep (n a : Nat) : evenG opsN (List.replicate (2 * n) a) = List.replicate n a := by
 refine ext_nth opsN (by rw [evenG_len]; simp; omega) fun i hi => ?_
 rw [evenG_len, List.length_replicate] at hi
 rw [nthG_even _ _ (by rw [List.length_replicate]; exact hi), nth_rep (by omega), nth_rep (by omega)]
theorem odd_rep (n a : Nat) : oddG opsN (List.replicate (2 * n) a) = List.replicate n a := by
 refine ext_nth opsN (by rw [oddG_len]; simp) fun i hi => ?_
 rw [oddG_len, List.length_replicate] at hi
 rw [nthG_odd _ _ (by rw [List.length_replicate]; exact hi), nth_rep (by omega), nth_rep (by omega)]
theorem even_delta (n a : Nat) : evenG opsN (delta (2 * n) a) = delta n a := by
 refine ext_nth opsN (by rw [evenG_len, delta_len, delta_len]; omega) fun i hi => ?_
 rw [evenG_len, delta_len] at hi
 rw [nthG_even _ _ (by rw [delta_len]; exact hi), nth_delta (by omega), nth_delta (by omega)]
 by_cases h : i = 0
 ·rw [if_pos h, if_pos (by omega)]
 ·rw [if_neg h, if_neg (by omega)]
theorem odd_delta (n a : Nat) : oddG opsN (delta (2 * n) a) = List.replicate n 0 := by
 refine ext_nth opsN (by rw [oddG_len, delta_len]; simp) fun i hi => ?_
 rw [oddG_len, delta_len] at hi
 rw [nthG_odd _ _ (by rw [delta_len]; exact hi), nth_delta (by omega), nth_rep (by omega), if_neg (by omega)]
theorem two_pow (p : Nat) : 2 ^ (p + 1) = 2 * 2 ^ p := by rw [Nat.pow_succ, Nat.mul_comm]
theorem tw_zero {tw : Nat → Nat × Nat} {k : Nat} (h : Nm (tw k).1 ∧ Nm (tw k).2) : tw1 opsN tw k 0 0 = (0, 0) := by
 unfold tw1
 split
 ·rfl
 ·show (fadd (fmul 0 (tw k).1) (fmul 0 (tw k).2), fsub (fmul 0 (tw k).1) (fmul 0 (tw k).2)) = _
  rw [zero_fmul h.1, zero_fmul h.2, fadd_zero nm_zero, fsub_zero nm_zero]
theorem add0 {x : Nat} (h : Nm x) : opsN.add x 0 = x := fadd_zero h
theorem sub0 {x : Nat} (h : Nm x) : opsN.sub x 0 = x := fsub_zero h
theorem rec_one (tw : Nat → Nat → Nat × Nat) (p : Nat) (ht : TwOk tw p) {a b : Nat} (ha : Nm a) (hb : Nm b) :
  recG opsN tw p (delta (2 ^ p) a, delta (2 ^ p) b) = (List.replicate (2 ^ p) a, List.replicate (2 ^ p) b) := by
 induction p generalizing a b with
 | zero => rfl
 | succ p ih =>
  have ih' := fun {a b} (ha : Nm a) (hb : Nm b) => ih (fun q k hq hk => ht q k (by omega) hk) (a := a) (b := b) ha hb
  have hz : List.replicate (2 ^ p) 0 = delta (2 ^ p) 0 := by
   refine ext_nth opsN (by rw [delta_len]; simp) fun i hi => ?_
   have hi' : i < 2 ^ p := by simpa using hi
   rw [nth_rep hi', nth_delta hi']; split <;> rfl
  have e1 := ih' ha hb
  have e2 := ih' nm_zero nm_zero
  rw [← hz] at e2
  show mergeL opsN (2 ^ p) (tw p) _ _ = _
  rw [two_pow, even_delta, even_delta, odd_delta, odd_delta, e1, e2]
  unfold mergeL appP
  have hh : ∀ k, k < 2 ^ p → tw1 opsN (tw p) k (nthG opsN (List.replicate (2 ^ p) 0) k) (nthG opsN (List.replicate (2 ^ p) 0) k) = (0, 0) := fun k hk => by
   rw [nth_rep hk, tw_zero (ht p k (by omega) hk)]
  have mm : ∀ {x : Nat} (hx : Nm x) (f : Nat → Nat → Nat) (g : Nat × Nat → Nat) (hg : g (0, 0) = 0) (hf : f x 0 = x), (List.range (2 ^ p)).map (fun k => f (nthG opsN (List.replicate (2 ^ p) x) k) (g (tw1 opsN (tw p) k (nthG opsN (List.replicate (2 ^ p) 0) k) (nthG opsN (List.replicate (2 ^ p) 0) k)))) = List.replicate (2 ^ p) x := fun {x} hx f g hg hf => by
   refine ext_nth opsN (by simp) fun i hi => ?_
   have hi' : i < 2 ^ p := by simpa using hi
   rw [nthG_map _ _ hi', hh i hi', hg, nth_rep hi', hf]
  have rr : ∀ x : Nat, List.replicate (2 ^ p) x ++ List.replicate (2 ^ p) x = List.replicate (2 * 2 ^ p) x := fun x => by rw [List.replicate_append_replicate]; congr 1; omega
  dsimp only
  rw [mm ha opsN.add (·.1) rfl (add0 ha), mm hb opsN.add (·.2) rfl (add0 hb), mm ha opsN.sub (·.1) rfl (sub0 ha), mm hb opsN.sub (·.2) rfl (sub0 hb), rr, rr]
theorem rec_alike (tw : Nat → Nat → Nat × Nat) (p : Nat) (ht : TwOk tw p) {a b : Nat} (ha : Up a p) (hb : Up b p) :
  recG opsN tw p (List.replicate (2 ^ p) a, List.replicate (2 ^ p) b) = (delta (2 ^ p) (pw a p), delta (2 ^ p) (pw b p)) := by
 induction p with
 | zero =>
  show ([a], [b]) = _
  rw [pw_zero ha.nm, pw_zero hb.nm]; rfl
 | succ p ih =>
  have e1 := ih (fun q k hq hk => ht q k (by omega) hk) (ha.mono (by omega)) (hb.mono (by omega))
  show mergeL opsN (2 ^ p) (tw p) _ _ = _
  rw [two_pow, even_rep, even_rep, odd_rep, odd_rep, e1]
  unfold mergeL appP
  have hh : ∀ k, k < 2 ^ p → tw1 opsN (tw p) k (nthG opsN (delta (2 ^ p) (pw a p)) k) (nthG opsN (delta (2 ^ p) (pw b p)) k) = if k = 0 then (pw a p, pw b p) else (0, 0) := fun k hk => by
   rw [nth_delta hk, nth_delta hk]
   by_cases h : k = 0
   ·subst h; simp only [if_true]; unfold tw1; rw [if_pos rfl]
   ·simp only [if_neg h]; rw [tw_zero (ht p k (by omega) hk)]
  have mm : ∀ {x y : Nat} (f : Nat → Nat → Nat) (g : Nat × Nat → Nat) (hg : g (0, 0) = 0) (hf0 : f 0 0 = 0) (hf : f x (g (pw a p, pw b p)) = y),
    (List.range (2 ^ p)).map (fun k => f (nthG opsN (delta (2 ^ p) x) k) (g (tw1 opsN (tw p) k (nthG opsN (delta (2 ^ p) (pw a p)) k) (nthG opsN (delta (2 ^ p) (pw b p)) k)))) = delta (2 ^ p) y := fun {x y} f g hg hf0 hf => by
   refine ext_nth opsN (by rw [delta_len]; simp) fun i hi => ?_
   have hi' : i < 2 ^ p := by simpa using hi
   rw [nthG_map _ _ hi', hh i hi', nth_delta hi', nth_delta hi']
   by_cases h : i = 0
   ·simp only [if_pos h]; exact hf
   ·simp only [if_neg h]; rw [hg, hf0]
  have rr : ∀ x : Nat, delta (2 ^ p) x ++ delta (2 ^ p) 0 = delta (2 * 2 ^ p) x := fun x => by
   refine ext_nth opsN (by rw [List.length_append, delta_len, delta_len, delta_len]; omega) fun i hi => ?_
   rw [List.length_append, delta_len, delta_len] at hi
   rw [nthG_app, delta_len, nth_delta (show i < 2 * 2 ^ p by omega)]
   split
   ·rw [nth_delta (by assumption)]
   ·have := Nat.two_pow_pos p
    rw [nth_delta (by omega), if_neg (show ¬ i = 0 by omega)]; split <;> rfl
  dsimp only
  rw [mm opsN.add (·.1) rfl (add0 nm_zero) (pw_add ha (Nat.le_refl _)), mm opsN.add (·.2) rfl (add0 nm_zero) (pw_add hb (Nat.le_refl _)), mm opsN.sub (·.1) rfl (sub0 nm_zero) (pw_sub ha (by omega)), mm opsN.sub (·.2) rfl (sub0 nm_zero) (pw_sub hb (by omega)), rr, rr]
end M3
namespace W4
open Ieee Go Go.RowKit Go.Proofs Go.Proofs.YtnbdoidccacdnaaGreatDoor Ow Dt Gp W0 M0 M1 M3
structure Fz (w : World) (b : Nat) (X : List Nat) : Prop where
 out : ∃ cs : List Value, Blk w b 50 cs ∧ ∀ j, j < X.length → ∃ v, cs[j]? = some v ∧ Fc v (nthN X j)
theorem _root_.Go.Proofs.YtnbdoidccacdnaaGreatDoor.W0.Fk.fz {w : World} {b : Nat} {X : List Nat} (h : Fk w b X) : Fz w b X := by
 obtain ⟨cs, h1, h2, h3⟩ := h.out
 exact ⟨cs, h1, fun j hj => ⟨cs[j], List.getElem?_eq_getElem (by omega), h3 j _ (List.getElem?_eq_getElem (by omega))⟩⟩
theorem Fz.bel {w w' : World} {b : Nat} {X : List Nat} (h : Fz w b X) (g : Bel w w') : Fz w' b X := by
 obtain ⟨cs, h1, h2⟩ := h.out; exact ⟨cs, h1.bel g, h2⟩
theorem Fz.lt {w : World} {b : Nat} {X : List Nat} (h : Fz w b X) : b < w.heap.size := by obtain ⟨cs, h1, _⟩ := h.out; exact h1.lt
theorem Fz.far {w : World} {b : Nat} {X : List Nat} (h : Fz w b X) {p : Addr} (hp : b ≠ p.block) (v : Value) : Fz (w.setCell p v) b X := by
 obtain ⟨cs, h1, h2⟩ := h.out; exact ⟨cs, h1.far hp v, h2⟩
theorem Fz.at_ {w : World} {b : Nat} {X : List Nat} (h : Fz w b X) {i : Nat} (hi : i < X.length) : ∃ r, w.cell? ⟨b, i, none⟩ = some (.float .f64 r) ∧ r < 2 * sgnW ∧ cn r = nthN X i := by
 obtain ⟨cs, h1, h2⟩ := h.out
 obtain ⟨v, hv, r, rfl, k1, k2⟩ := h2 i hi
 exact ⟨r, h1.cell hv, k1, k2⟩
theorem Fz.free {w : World} {b : Nat} {X : List Nat} (h : Fz w b X) (i : Nat) : w.frozen? ⟨b, i, none⟩ = false := by
 obtain ⟨cs, h1, _⟩ := h.out; exact h1.free i
theorem Fz.set {w : World} {b : Nat} {X : List Nat} (h : Fz w b X) (i : Nat) {r x : Nat} (hr : r < 2 * sgnW) (hx : cn r = x) : Fz (w.setCell ⟨b, i, none⟩ (.float .f64 r)) b (X.set i x) := by
 obtain ⟨cs, h1, h2⟩ := h.out
 refine ⟨cs.set i (.float .f64 r), h1.set i _, fun j hj => ?_⟩
 rw [List.length_set] at hj
 obtain ⟨v, hv, hf⟩ := h2 j hj
 have hjc : j < cs.length := (List.getElem?_eq_some_iff.1 hv).1
 rw [nthN_set]
 by_cases e : i = j
 ·subst e
  refine ⟨.float .f64 r, by rw [List.getElem?_set]; simp [hjc], ?_⟩
  rw [if_pos ⟨rfl, hj⟩]
  exact ⟨r, rfl, hr, hx⟩
 ·refine ⟨v, by rw [List.getElem?_set, if_neg e]; exact hv, ?_⟩
  rw [if_neg (fun q => e q.1)]; exact hf
theorem Fz.fr {w : World} {b : Nat} {X : List Nat} (h : Fz w b X) (hm : X.length ≤ 35184372088831) : Fr w (some ⟨b, 0, none⟩) X :=
 ⟨hm, fun j hj => by
  obtain ⟨r, hc, k1, k2⟩ := h.at_ hj
  exact ⟨_, _, rfl, by rw [add_lit, Nat.zero_add]; exact hc, r, rfl, k1, k2⟩⟩
structure Gr2 (b c : Nat) (w w' : World) : Prop where
 os : w'.os = w.os
 tape : w'.tape = w.tape
 output : w'.output = w.output
 size : w.heap.size ≤ w'.heap.size
 block : ∀ k, k < w.heap.size → k ≠ b → k ≠ c → w'.heap[k]? = w.heap[k]?
theorem Gr2.refl (b c : Nat) (w : World) : Gr2 b c w w := ⟨rfl, rfl, rfl, Nat.le_refl _, fun _ _ _ _ => rfl⟩
theorem Gr2.trans {b c : Nat} {u v w : World} (h : Gr2 b c u v) (k : Gr2 b c v w) : Gr2 b c u w :=
 ⟨k.os.trans h.os, k.tape.trans h.tape, k.output.trans h.output, Nat.le_trans h.size k.size, fun i hi n1 n2 => (k.block i (Nat.lt_of_lt_of_le hi h.size) n1 n2).trans (h.block i hi n1 n2)⟩
theorem gr2_bel {w w' : World} (h : Bel w w') (b c : Nat) : Gr2 b c w w' := ⟨h.out.os, h.out.tape, h.out.output, h.out.size, fun k hk _ _ => h.out.block k hk⟩
theorem Gr2.tb {b c : Nat} {u v w : World} (h : Gr2 b c u v) (k : Bel v w) : Gr2 b c u w := h.trans (gr2_bel k b c)
theorem Gr2.alloc {b c : Nat} {u v : World} (h : Gr2 b c u v) (o : Obj) : Gr2 b c u (v.alloc o) := h.tb ((Bel.refl v).alloc o)
theorem Gr2.drew {b c : Nat} {u v : World} (h : Gr2 b c u v) : Gr2 b c u v.drew := h.tb (Bel.refl v).drew
theorem Gr2.set {b c : Nat} {u v : World} (h : Gr2 b c u v) {p : Addr} (hp : p.block = b ∨ p.block = c) (x : Value) : Gr2 b c u (v.setCell p x) :=
 h.trans ⟨rfl, rfl, rfl, by simp [World.setCell], fun k _ n1 n2 => Below.heap_setCell _ _ _ _ (by rcases hp with e | e <;> rw [e] <;> assumption)⟩
theorem Gr2.setNew {b c : Nat} {u v : World} (h : Gr2 b c u v) {p : Addr} (hp : u.heap.size ≤ p.block) (x : Value) : Gr2 b c u (v.setCell p x) :=
 ⟨h.os, h.tape, h.output, by have := h.size; simpa [World.setCell] using this, fun k hk n1 n2 => (Below.heap_setCell _ _ _ _ (by omega)).trans (h.block k hk n1 n2)⟩
theorem Gr2.blk {b c : Nat} {w w' : World} (h : Gr2 b c w w') {b' : Nat} {t : TypeId} {cs : List Value} (k : Blk w b' t cs) (n1 : b' ≠ b) (n2 : b' ≠ c) : Blk w' b' t cs := ⟨by rw [h.block b' k.lt n1 n2]; exact k.out⟩
theorem Gr2.fz {b c : Nat} {w w' : World} (h : Gr2 b c w w') {b' : Nat} {X : List Nat} (k : Fz w b' X) (n1 : b' ≠ b) (n2 : b' ≠ c) : Fz w' b' X := by
 obtain ⟨cs, h1, h2⟩ := k.out; exact ⟨cs, h.blk h1 n1 n2, h2⟩
theorem Gr2.of1 {b c : Nat} {w w' : World} (h : Gr b w w') : Gr2 b c w w' := ⟨h.os, h.tape, h.output, h.size, fun k hk n1 _ => h.block k hk n1⟩
theorem Gr2.of2 {b c : Nat} {w w' : World} (h : Gr c w w') : Gr2 b c w w' := ⟨h.os, h.tape, h.output, h.size, fun k hk _ n2 => h.block k hk n2⟩
theorem Gr2.tab {b c : Nat} {w w' : World} (h : Gr2 b c w w') (T : Tab w) (n1 : 2 ≠ b) (n2 : 2 ≠ c) : Tab w' :=
 ⟨fun i hi => by have := T.cell i hi; unfold World.cell? at this ⊢; rw [h.block 2 (I4.Tab.lt T) n1 n2]; exact this⟩
theorem Gr2.bel {b c : Nat} {u w w' : World} (h : Gr2 b c w w') (k : Bel u w) (hb : u.heap.size ≤ b) (hc : u.heap.size ≤ c) : Bel u w' :=
 ⟨k.out.trans ⟨h.os, h.tape, h.output, h.size, fun i hi => h.block i (by have := k.size; omega) (by omega) (by omega)⟩⟩
theorem gr_fz {b : Nat} {w w' : World} (h : Gr b w w') {b' : Nat} {X : List Nat} (k : Fz w b' X) (n1 : b' ≠ b) : Fz w' b' X := by
 obtain ⟨cs, h1, h2⟩ := k.out; exact ⟨cs, h.blk h1 n1, h2⟩
end W4
namespace P4
open Ieee Go Go.RowKit Go.Proofs Go.Proofs.YtnbdoidccacdnaaGreatDoor Ow Pl Dp Dt Gp F1 I0 W0 S4 P0 M0 M1 M3 P3 W4
attribute [local go_sem ↓] Go.wp_at_zero Go.wp_at_succ
def logI (n : Nat) : Int := if n ≠ 0 ∧ 2 ^ Nat.log2 n = n ∧ n ≤ 1024 then (Nat.log2 n : Int) else -1
def logOk (n : Nat) : Bool := n == 0 || ((bits .and .i64 (n : Int) ((n : Int) - 1) == 0) == decide (2 ^ Nat.log2 n = n) && (decide (2 ^ Nat.log2 n ≠ n) || tz n == Nat.log2 n))
theorem log_ok : ∀ n : Fin 1100, logOk n.val = true := by decide +kernel
theorem log_fact {n : Nat} (h : n < 1100) (h0 : n ≠ 0) : ((bits .and .i64 (n : Int) ((n : Int) - 1) = 0) ↔ 2 ^ Nat.log2 n = n) ∧ (2 ^ Nat.log2 n = n → tz n = Nat.log2 n) := by
 have := log_ok ⟨n, h⟩
 unfold logOk at this
 simp only [Bool.or_eq_true, Bool.and_eq_true, beq_iff_eq, decide_eq_true_eq] at this
 rcases this with q | ⟨q1, q2⟩
 ·exact (h0 q).elim
 ·constructor
  ·constructor
   ·intro e; rw [e] at q1; simpa using q1
   ·intro e; rw [e] at q1; simpa using q1
  ·intro e; exact q2.resolve_left (fun c => c e)
theorem dLog {n : Nat} {fn : Nat} (hfn : fn = 100) (w : World) (h : n < 1100) (T : Tab w) : Calls Tryz.prog fn #[.int .i64 (n : Int)] w fun e w' => e = .returned (.int .i64 (logI n)) ∧ w = w' := by
 have TT := Ho.mk T
 clear T
 subst hfn
 obtain ⟨k, hk⟩ : ∃ k : Int, k = (n : Int) := ⟨_, rfl⟩
 by_cases h0 : n = 0
 ·subst h0
  have e : logI 0 = -1 := by decide
  rw [e]
  go_enter Tryz.func100, Tryz.ntmps100
  go_wp2
  go_ret
  exact ⟨rfl, rfl⟩
 ·obtain ⟨f1, f2⟩ := log_fact h h0
  have F2 := Ho.mk f2
  have hk0 : 0 < k := by omega
  have hk1 : k < 1100 := by omega
  by_cases hp : 2 ^ Nat.log2 n = n
  ·have hb : bits .and .i64 k (k - 1) = 0 := by rw [hk]; exact f1.2 hp
   have HE := Ho.mk (show logI n = if n ≤ 1024 then (Nat.log2 n : Int) else -1 by unfold logI; by_cases c : n ≤ 1024 <;> simp [h0, hp, c])
   have HT := Ho.mk (f2 hp)
   rw [HE.out, ← hk]
   have HK := Ho.mk hk
   clear f1 f2 hp h0 hk
   by_cases c : 1024 < k
   ·rw [if_neg (by have := HK.out; omega)]
    go_enter Tryz.func100, Tryz.ntmps100
    go_wp2
    go_ret
    exact ⟨rfl, rfl⟩
   ·rw [if_pos (by have := HK.out; omega)]
    go_enter Tryz.func100, Tryz.ntmps100
    go_wp2_with (go_at_call 120; (with_reducible refine (E1.tz_callsI _ _ (by omega) (by omega) TT.out).mono ?_); rintro e w' ⟨rfl, rfl⟩)
    go_ret
    refine ⟨?_, rfl⟩
    rw [show k.toNat = n by have := HK.out; omega, HT.out]; rfl
  ·have hb : ¬ bits .and .i64 k (k - 1) = 0 := by rw [hk]; exact fun e => hp (f1.1 e)
   have HE : logI n = -1 := by unfold logI; rw [if_neg (fun q => hp q.2.1)]
   rw [HE, ← hk]
   clear f1 f2 hp h0 hk HE F2
   go_enter Tryz.func100, Tryz.ntmps100
   go_wp2
   go_ret
   exact ⟨rfl, rfl⟩
end P4
namespace P5
open Ieee Go Go.RowKit Go.Proofs Go.Proofs.YtnbdoidccacdnaaGreatDoor Ow Pl Dp Dt Gp F1 I0 W0 S4 P0 M0 M1 M3 P3 W4
attribute [local go_sem ↓] Go.wp_at_zero Go.wp_at_succ
def swapK (od X : List Nat) (k : Nat) : List Nat := loopN (fun k l => swapAt opsN l k (od.getD k 0)) k X
theorem swapK_len (od X : List Nat) (k : Nat) : (swapK od X k).length = X.length := by
 refine loopN_inv (I := fun _ (s : List Nat) => s.length = X.length) k rfl ?_
 intro k s _ h
 show (swapAt opsN s k _).length = _
 unfold swapAt; split <;> simp [h]
theorem swapK_succ (od X : List Nat) (k : Nat) : swapK od X (k + 1) = swapAt opsN (swapK od X k) k (od.getD k 0) := rfl
theorem dSwap {b bo c co N : Nat} {X od : List Nat} (W0 : World) (KX : Fz W0 b X) (KO : Blk W0 bo 3 (insN od)) (hX : X.length = N) (hO : od.length = N) (hlt : ∀ k, k < N → od.getD k 0 < N) (hN : N ≤ 100000) (hne : bo ≠ b) :
  Calls Tryz.prog 102 #[.slice (some ⟨b, 0, none⟩) N c, .slice (some ⟨bo, 0, none⟩) N co] W0
   fun e w' => e = .returned (.tuple #[]) ∧ Fz w' b (swapG opsN od X) ∧ Gr b W0 w' := by
 have HL := Ho.mk hlt
 have K1 := Ho.mk KX
 have K2 := Ho.mk KO
 have HX := Ho.mk hX
 have HO := Ho.mk hO
 clear hlt KX KO hX hO
 go_enter Tryz.func102, Tryz.ntmps102
 go_wp2_with fail
 go_loopw [8] (fun v wr => ∃ (i : Nat), i ≤ N ∧ v = .int .i64 i ∧ Ho (Fz wr b (swapK od X i)) ∧ Ho (Gr b W0 wr)) (fun v _ => N - (intOf v).toNat)
 case atStart => exact ⟨0, Nat.zero_le _, rfl, K1, ⟨Gr.refl _ _⟩⟩
 case round =>
  obtain ⟨i, hi, rfl, FK, HW⟩ := hrel
  rcases Nat.lt_or_ge i N with hlt | hge
  ·have y0 := (HW.out.blk K2.out hne).cell (insN_at (show i < od.length by rw [HO.out]; exact hlt))
   obtain ⟨x, hx⟩ : ∃ x, x = od.getD i 0 := ⟨_, rfl⟩
   have hxN := HL.out i hlt
   rw [← hx] at y0 hxN
   have HXX := Ho.mk hx
   clear hx
   have hl1 : i < (swapK od X i).length := by rw [swapK_len, HX.out]; exact hlt
   have hl2 : x < (swapK od X i).length := by rw [swapK_len, HX.out]; exact hxN
   obtain ⟨r1, y1, r1l, r1c⟩ := FK.out.at_ hl1
   obtain ⟨r2, y2, r2l, r2c⟩ := FK.out.at_ hl2
   have z1 := FK.out.free i
   have z2 := FK.out.free x
   have HR := Ho.mk (And.intro (And.intro r1l r1c) (And.intro r2l r2c))
   clear r1l r1c r2l r2c hl1 hl2
   by_cases hc : (i : Int) < (x : Int)
   ·--@@
    go_upto_region 4 with fail
    go_region
    go_wp2
    go_roundw
    case rel =>
     refine ⟨i + 1, by omega, by simp, ⟨?_⟩, ⟨?_⟩⟩
     ·rw [swapK_succ, ← HXX.out, swapAt, if_pos (by omega)]
      have hk := (FK.out.set i HR.out.2.1 (x := nthN (swapK od X i) x) HR.out.2.2).set x HR.out.1.1 (x := nthN (swapK od X i) i) HR.out.1.2
      exact hk.bel (Bel.refl _).drew
     ·exact ((HW.out.drew).set i _).set x _
    case measure => simp [intOf]; omega
   ·go_wp2
    go_roundw
    case rel =>
     refine ⟨i + 1, by omega, by simp, ⟨?_⟩, HW⟩
     rw [swapK_succ, ← HXX.out, swapAt, if_neg (by omega)]; exact FK.out
    case measure => simp [intOf]; omega
  ·obtain rfl : i = N := by omega
   go_wp2
   go_end0
   exact ⟨rfl, by unfold swapG; rw [HO.out]; exact FK.out, HW.out⟩
end P5
namespace P6
open Ieee Go Go.RowKit Go.Proofs Go.Proofs.YtnbdoidccacdnaaGreatDoor Ow Pl Dp Dt Gp F1 I0 W0 S4 S6 P0 M0 M1 M3 P3 P4 W4
attribute [local go_sem ↓] Go.wp_at_zero Go.wp_at_succ
def TellsV (W0 : World) (v0 v1 : Value) (e : Ending) (w' : World) : Prop := e = .returned (.agg #[v0, v1]) ∧ Bel W0 w'
theorem dPart {b b' o n m f t c c' : Nat} (w : World) (hft : f < t) (htc : t ≤ c) (htc' : t ≤ c') (hn : n ≤ c) (hm : m ≤ c') (hc : c ≤ 9223372036854775807) (hc' : c' ≤ 9223372036854775807) :
  Calls Tryz.prog 105 #[.agg #[.slice (some ⟨b, o, none⟩) n c, .slice (some ⟨b', o, none⟩) m c'], .int .i64 (f : Int), .int .i64 (t : Int)] w
   (TellsV w (.slice (some ⟨b, o + f, none⟩) (t - f) (c - f)) (.slice (some ⟨b', o + f, none⟩) (t - f) (c' - f))) := by
 go_enter Tryz.func105, Tryz.ntmps105
 have KV := Ho.mk ((Blk.new w [.slice (some ⟨b, o, none⟩) n c, .slice (some ⟨b', o, none⟩) m c'] 24).old (.cells #[.slice none 0 0, .slice none 0 0] 24))
 have KR := Ho.mk (Blk.new (w.alloc (.cells #[.slice (some ⟨b, o, none⟩) n c, .slice (some ⟨b', o, none⟩) m c'] 24)) [.slice none 0 0, .slice none 0 0] 24)
 have g0 := Ho.mk (((Bel.refl w).alloc (.cells #[.slice (some ⟨b, o, none⟩) n c, .slice (some ⟨b', o, none⟩) m c'] 24)).alloc (.cells #[.slice none 0 0, .slice none 0 0] 24))
 rw [World.size_alloc] at KR
 go_wp2_with fail
 generalize (w.alloc (.cells #[.slice (some ⟨b, o, none⟩) n c, .slice (some ⟨b', o, none⟩) m c'] 24)).alloc (.cells #[.slice none 0 0, .slice none 0 0] 24) = W at *
 have y0 := KV.out.cell (i := 0) rfl
 have y1 := KV.out.cell (i := 1) rfl
 have x0 := KR.out.cell (i := 0) rfl
 have x1 := KR.out.cell (i := 1) rfl
 have z0 := KR.out.free 0
 have z1 := KR.out.free 1
 --@@
 go_region
 go_wp2
 exact bodyPost_ret (resV (fn := Tryz.f105) rfl rfl ((KR.out.drew.set 0 _).set 1 _)) rfl ⟨rfl, ⟨((g0.out.out.drew).setCell (p := ⟨w.heap.size + 1, 0, none⟩) (by dsimp only; omega) _).setCell (p := ⟨w.heap.size + 1, 1, none⟩) (by dsimp only; omega) _⟩⟩
theorem dRightV {n m c c' : Nat} {A B : Option Addr} (w : World) (T : Tab w) (hn : n < 1100) (hm : m < 1100) :
  Calls Tryz.prog 99 #[.agg #[.slice A n c, .slice B m c']] w (fun e w' => e = .returned (.bool (decide (n = m ∧ 0 ≤ logI n))) ∧ Bel w w') := by
 have lg := (fun w' (g : Bel w w') => dLog (fn := 100) rfl w' hn (T.bel g))
 generalize logI n = z at *
 have LG := Ho.mk lg
 clear lg
 have KV := Ho.mk (Blk.new w [.slice A n c, .slice B m c'] 24)
 have g0 := Ho.mk ((Bel.refl w).alloc (.cells #[.slice A n c, .slice B m c'] 24))
 by_cases he : n = m
 ·subst he
  go_enter Tryz.func99, Tryz.ntmps99
  go_wp2_with (go_at_call 100; (with_reducible refine (LG.out _ g0.out).mono ?_); rintro e w' ⟨rfl, rfl⟩)
  go_ret
  exact ⟨by simp, g0.out⟩
 ·have hne : ¬ (n : Int) = (m : Int) := by omega
  go_enter Tryz.func99, Tryz.ntmps99
  go_wp2_with fail
  go_ret
  exact ⟨by simp [hne, he], g0.out⟩
theorem dAt {k p q m bw bp bq bc bs : Nat} {CX SX : List Nat} (w : World) (KW : Blk w bw 24 [.slice (some ⟨bc, 0, none⟩) m m, .slice (some ⟨bs, 0, none⟩) m m]) (KP : Blk w bp 3 [.int .i64 (p : Int)]) (KQ : Blk w bq 3 [.int .i64 (q : Int)])
  (FC : Fk w bc CX) (FS : Fk w bs SX) (hp : p ≤ 9) (hq : q ≤ p) (hk : k < 512) (hi : k * 2 ^ (p - q) < m) (hC : CX.length = m) (hS : SX.length = m) (hm : m < 1000000) :
  Calls Tryz.prog 103 #[.int .i64 (k : Int), .pointer (some ⟨bw, 0, none⟩), .pointer (some ⟨bp, 0, none⟩), .pointer (some ⟨bq, 0, none⟩)] w (Tells2 w (nthN CX (k * 2 ^ (p - q)), nthN SX (k * 2 ^ (p - q)))) := by
 have y0 := KW.cell (i := 0) rfl
 have y1 := KW.cell (i := 1) rfl
 have y2 := KP.cell (i := 0) rfl
 have y3 := KQ.cell (i := 0) rfl
 obtain ⟨r, y4, r1, r2⟩ := FC.at_ (i := k * 2 ^ (p - q)) (by omega)
 obtain ⟨s, y5, s1, s2⟩ := FS.at_ (i := k * 2 ^ (p - q)) (by omega)
 have HR := Ho.mk (And.intro (And.intro r1 r2) (And.intro s1 s2))
 have hpq : IntKind.i64.wrap ((p : Int) - (q : Int)) = ((p - q : Nat) : Int) := by rw [IntKind.wrap_i64]; omega
 have hsh : IntKind.i64.wrap ((k : Int) * 2 ^ (p - q)) = ((k * 2 ^ (p - q) : Nat) : Int) := by
  have e : ((k : Int) * 2 ^ (p - q)) = ((k * 2 ^ (p - q) : Nat) : Int) := by push_cast; rfl
  rw [e, IntKind.wrap_i64]
  generalize k * 2 ^ (p - q) = z at *
  omega
 generalize k * 2 ^ (p - q) = z at *
 have hd9 : p - q ≤ 9 := by omega
 generalize p - q = d at *
 clear KW KP KQ FC FS hC hS r1 r2 s1 s2
 go_enter Tryz.func103, Tryz.ntmps103
 go_upto_region 1 with fail
 go_region
 go_wp2
 go_ret2
 exact ⟨r, s, rfl, ⟨HR.out.1.1, HR.out.2.1⟩, ⟨HR.out.1.2, HR.out.2.2⟩, (Bel.refl _).drew⟩
end P6
namespace I8
open Go Go.RowKit Go.Proofs.YtnbdoidccacdnaaGreatDoor I0
section
variable {P : Program} {ops : Array Oper} {Q : Exit → Act → World → Prop} {md : Region.Mode} {S : World → Prop}
theorem rc3 {i j k : Nat} {o o' o'' : Oper} {rest rest' rest'' : List Oper} {fuel : Nat} {listed : Array Bool} {a : Act} {w : World}
  (h : ∀ K' : Act → World → Prop, Shut (∀ a w, S w → (S w → wpAnyH P md ops Q S fuel (listed.setIfInBounds i true) a w) → K' a w) → Oper.wp P o a w K' Q)
  (h' : ∀ K' : Act → World → Prop, Shut (∀ a w, S w → (S w → wpAnyH P md ops Q S fuel (listed.setIfInBounds j true) a w) → K' a w) → Oper.wp P o' a w K' Q)
  (h'' : ∀ K' : Act → World → Prop, Shut (∀ a w, S w → (S w → wpAnyH P md ops Q S fuel (listed.setIfInBounds k true) a w) → K' a w) → Oper.wp P o'' a w K' Q)
  (hr : Region.ready md ops listed = [i, j, k] := by kernel_rfl) (hi : ops.toList.drop i = o :: rest := by rfl) (hj : ops.toList.drop j = o' :: rest' := by rfl) (hk : ops.toList.drop k = o'' :: rest'' := by rfl)
  (hw : Region.wanted o (yielded ops a.tmps) = true := by kernel_rfl) (hw' : Region.wanted o' (yielded ops a.tmps) = true := by kernel_rfl) (hw'' : Region.wanted o'' (yielded ops a.tmps) = true := by kernel_rfl) : wpAnyH P md ops Q S (fuel + 1) listed a w :=
 wpAnyH_ready hr (by simp) (AllReadyH.cons (ops_at hi) (fun K' hK => by rw [if_pos hw]; exact h K' hK) (AllReadyH.cons (ops_at hj) (fun K' hK => by rw [if_pos hw']; exact h' K' hK) (AllReadyH.cons (ops_at hk) (fun K' hK => by rw [if_pos hw'']; exact h'' K' hK) AllReadyH.nil)))
end
end I8
namespace P7
open Ieee Go Go.RowKit Go.Proofs Go.Proofs.YtnbdoidccacdnaaGreatDoor Ow Pl Dp Dt Gp F1 I0 W0 S4 P0 P1 P2 M0 M1 M3 P3 P4 P6 W4
attribute [local go_sem ↓] Go.wp_at_zero Go.wp_at_succ
def mergeS (f half : Nat) (tw : Nat → Nat × Nat) (st : List Nat × List Nat) (k : Nat) : List Nat × List Nat := loopN (mstep opsN f half tw) k st
theorem mergeS_len (f half : Nat) (tw : Nat → Nat × Nat) (st : List Nat × List Nat) (k : Nat) : (mergeS f half tw st k).1.length = st.1.length ∧ (mergeS f half tw st k).2.length = st.2.length := by
 refine loopN_inv (I := fun _ (s : List Nat × List Nat) => s.1.length = st.1.length ∧ s.2.length = st.2.length) k ⟨rfl, rfl⟩ ?_
 intro k s _ h
 simp only [mstep, List.length_set]; exact h
theorem mergeS_succ (f half : Nat) (tw : Nat → Nat × Nat) (st : List Nat × List Nat) (k : Nat) : mergeS f half tw st (k + 1) = mstep opsN f half tw k (mergeS f half tw st k) := rfl
theorem dMerge {half f c c' b b' bw bp bq N : Nat} {X Y : List Nat} {tw : Nat → Nat × Nat} (W0 : World) (KX : Fz W0 b X) (KY : Fz W0 b' Y) (hb : b ≠ b') (hX : X.length = N) (hY : Y.length = N) (hf : f + 2 * half ≤ N) (h0 : 0 < half) (hN : N ≤ 100000) (hc : 2 * half ≤ c) (hc' : 2 * half ≤ c') (hC : c ≤ 9223372036854775807) (hC' : c' ≤ 9223372036854775807)
  (AT : ∀ k, 0 < k → k < half → ∀ w, Gr2 b b' W0 w → Calls Tryz.prog 103 #[.int .i64 (k : Int), .pointer (some ⟨bw, 0, none⟩), .pointer (some ⟨bp, 0, none⟩), .pointer (some ⟨bq, 0, none⟩)] w (Tells2 w (tw k))) :
  Calls Tryz.prog 104 #[.agg #[.slice (some ⟨b, f, none⟩) (2 * half) c, .slice (some ⟨b', f, none⟩) (2 * half) c'], .func (.func 103) #[] #[.pointer (some ⟨bw, 0, none⟩), .pointer (some ⟨bp, 0, none⟩), .pointer (some ⟨bq, 0, none⟩)]] W0
   fun e w' => e = .returned (.tuple #[]) ∧ Fz w' b (mergeG opsN f half tw (X, Y)).1 ∧ Fz w' b' (mergeG opsN f half tw (X, Y)).2 ∧ Gr2 b b' W0 w' := by
 have PT1 : Ho (∀ w, Calls Tryz.prog 105 #[.agg #[.slice (some ⟨b, f, none⟩) (2 * half) c, .slice (some ⟨b', f, none⟩) (2 * half) c'], .int .i64 0, .int .i64 (half : Int)] w (TellsV w (.slice (some ⟨b, f, none⟩) half c) (.slice (some ⟨b', f, none⟩) half c'))) :=
  ⟨fun w => by have h := dPart (b := b) (b' := b') (o := f) (n := 2 * half) (m := 2 * half) (f := 0) (t := half) (c := c) (c' := c') w h0 (by omega) (by omega) hc hc' hC hC'; simpa using h⟩
 have PT2 : Ho (∀ w, Calls Tryz.prog 105 #[.agg #[.slice (some ⟨b, f, none⟩) (2 * half) c, .slice (some ⟨b', f, none⟩) (2 * half) c'], .int .i64 (half : Int), .int .i64 (2 * (half : Int))] w (TellsV w (.slice (some ⟨b, f + half, none⟩) half (c - half)) (.slice (some ⟨b', f + half, none⟩) half (c' - half)))) :=
  ⟨fun w => by have h := dPart (b := b) (b' := b') (o := f) (n := 2 * half) (m := 2 * half) (f := half) (t := 2 * half) (c := c) (c' := c') w (by omega) hc hc' hc hc' hC hC'; rw [show 2 * half - half = half by omega, show ((2 * half : Nat) : Int) = 2 * (half : Int) by omega] at h; exact h⟩
 have K1 := Ho.mk KX
 have K2 := Ho.mk KY
 have A0 := Ho.mk AT
 have HX := Ho.mk hX
 have HY := Ho.mk hY
 have KV := Ho.mk (Blk.new W0 [.slice (some ⟨b, f, none⟩) (2 * half) c, .slice (some ⟨b', f, none⟩) (2 * half) c'] 24)
 have g0 := Ho.mk ((Bel.refl W0).alloc (.cells #[.slice (some ⟨b, f, none⟩) (2 * half) c, .slice (some ⟨b', f, none⟩) (2 * half) c'] 24))
 have lb := KX.lt
 have lb' := KY.lt
 clear KX KY AT hX hY
 go_enter Tryz.func104, Tryz.ntmps104
 go_upto_region 2 with fail
 have hs : (W0.alloc (.cells #[.slice (some ⟨b, f, none⟩) (2 * half) c, .slice (some ⟨b', f, none⟩) (2 * half) c'] 24)).heap.size = W0.heap.size + 1 := World.size_alloc _ _
 generalize W0.alloc (.cells #[.slice (some ⟨b, f, none⟩) (2 * half) c, .slice (some ⟨b', f, none⟩) (2 * half) c'] 24) = W at *
 have y0 := KV.out.cell (i := 0) rfl
 have y1 := KV.out.cell (i := 1) rfl
 go_cut [5, 6] from 14 to 26 (fun s5 s6 wy => ∃ (bE bO : Nat), s5 = .pointer (some ⟨bE, 0, none⟩) ∧ s6 = .pointer (some ⟨bO, 0, none⟩) ∧ Ho (Blk wy bE 24 [.slice (some ⟨b, f, none⟩) half c, .slice (some ⟨b', f, none⟩) half c']) ∧ Ho (Blk wy bO 24 [.slice (some ⟨b, f + half, none⟩) half (c - half), .slice (some ⟨b', f + half, none⟩) half (c' - half)]) ∧ Ho (Bel W wy) ∧ Ho (bE ≠ bO) ∧ Ho (W0.heap.size ≤ bE) ∧ Ho (W0.heap.size ≤ bO))
 case first =>
  refine wp_region_held_drew (S := fun w' => Bel W w') (by kernel_rfl) (Bel.refl _).drew (fun hHeld => ?_)
  (try dsimp only at hHeld)
  generalize W.drew = wx at *
  refine rl (i := 0) (v := ?_) hHeld (fun w hSw => ?_) ?_
  rotate_left
  ·(have z0 := hSw.cell y0; have z1 := hSw.cell y1; go_simp; try (with_reducible rfl))
  refine rt (i := 1) hHeld ?_
  refine rl (i := 3) (v := ?_) hHeld (fun w hSw => ?_) ?_
  rotate_left
  ·(have z0 := hSw.cell y0; have z1 := hSw.cell y1; go_simp; try (with_reducible rfl))
  refine rt (i := 4) hHeld ?_
  refine rt (i := 5) hHeld ?_
  refine rl (i := 6) (v := ?_) hHeld (fun w hSw => ?_) ?_
  rotate_left
  ·(have z0 := hSw.cell y0; have z1 := hSw.cell y1; go_simp; try (with_reducible rfl))
  refine rt (i := 7) hHeld ?_
  try simp only [Act.put, List.setIfInBounds_toArray, List.set_cons_zero, List.set_cons_succ]
  refine I8.rc3 (i := 2) (j := 9) (k := 10) (fun K hK => ?_) (fun K hK => ?_) (fun K hK => ?_)
  go_simp
  go_at_call 105
  (with_reducible refine (PT1.out wx).mono ?_); rintro e wx ⟨rfl, bwx⟩
  try go_wp2_with fail
  refine hK.out _ _ (Bel.trans hHeld bwx) (fun hHeld => ?_)
  clear hK K
  clear bwx
  try simp only [Act.put, List.setIfInBounds_toArray, List.set_cons_zero, List.set_cons_succ]
  refine I8.rc3 (i := 8) (j := 9) (k := 10) (fun K hK => ?_) (fun K hK => ?_) (fun K hK => ?_)
  go_simp
  go_at_call 105
  (with_reducible refine (PT2.out wx).mono ?_); rintro e wx ⟨rfl, bwx⟩
  try go_wp2_with fail
  refine hK.out _ _ (Bel.trans hHeld bwx) (fun hHeld => ?_)
  clear hK K
  clear bwx
  try simp only [Act.put, List.setIfInBounds_toArray, List.set_cons_zero, List.set_cons_succ]
  refine I6.rc2 (i := 9) (j := 10) (fun K hK => ?_) (fun K hK => ?_)
  go_simp
  have le_bE := hHeld.size
  refine hK.out _ _ (Bel.alloc hHeld _) (fun hHeld => ?_)
  clear hK K
  have KE := Ho.mk (Blk.new wx [.slice none 0 0, .slice none 0 0] 24)
  have lt_bE : wx.heap.size < (World.alloc wx (.cells #[.slice none 0 0, .slice none 0 0] 24)).heap.size := by rw [World.size_alloc]; exact Nat.lt_succ_self _
  obtain ⟨bE, hp_bE⟩ : ∃ p, p = wx.heap.size := ⟨_, rfl⟩
  rw [← hp_bE] at KE le_bE lt_bE
  rw [← hp_bE]
  clear hp_bE
  generalize World.alloc wx (.cells #[.slice none 0 0, .slice none 0 0] 24) = wx at *
  try simp only [Act.put, List.setIfInBounds_toArray, List.set_cons_zero, List.set_cons_succ]
  refine rc (i := 10) (fun K hK => ?_)
  go_simp
  have le_bO := hHeld.size
  refine hK.out _ _ (Bel.alloc hHeld _) (fun hHeld => ?_)
  clear hK K
  have KO := Ho.mk (Blk.new wx [.slice none 0 0, .slice none 0 0] 24)
  have KE := Ho.mk (KE.out.bel ((Bel.refl wx).alloc (.cells #[.slice none 0 0, .slice none 0 0] 24)))
  have lt_bE := Nat.lt_of_lt_of_le lt_bE ((Bel.refl wx).alloc (.cells #[.slice none 0 0, .slice none 0 0] 24)).size
  have lt_bO : wx.heap.size < (World.alloc wx (.cells #[.slice none 0 0, .slice none 0 0] 24)).heap.size := by rw [World.size_alloc]; exact Nat.lt_succ_self _
  obtain ⟨bO, hp_bO⟩ : ∃ p, p = wx.heap.size := ⟨_, rfl⟩
  rw [← hp_bO] at KO le_bO lt_bO
  rw [← hp_bO]
  have gt_bE_bO : bE < bO := by omega
  have ne_bE_bO : bE ≠ bO := by omega
  have en_bE_bO : bO ≠ bE := by omega
  clear hp_bO
  generalize World.alloc wx (.cells #[.slice none 0 0, .slice none 0 0] 24) = wx at *
  rotate_left
  go_simp
  have le_bO := hHeld.size
  refine hK.out _ _ (Bel.alloc hHeld _) (fun hHeld => ?_)
  clear hK K
  have KO := Ho.mk (Blk.new wx [.slice none 0 0, .slice none 0 0] 24)
  have lt_bO : wx.heap.size < (World.alloc wx (.cells #[.slice none 0 0, .slice none 0 0] 24)).heap.size := by rw [World.size_alloc]; exact Nat.lt_succ_self _
  obtain ⟨bO, hp_bO⟩ : ∃ p, p = wx.heap.size := ⟨_, rfl⟩
  rw [← hp_bO] at KO le_bO lt_bO
  rw [← hp_bO]
  clear hp_bO
  generalize World.alloc wx (.cells #[.slice none 0 0, .slice none 0 0] 24) = wx at *
  try simp only [Act.put, List.setIfInBounds_toArray, List.set_cons_zero, List.set_cons_succ]
  refine rc (i := 9) (fun K hK => ?_)
  go_simp
  have le_bE := hHeld.size
  refine hK.out _ _ (Bel.alloc hHeld _) (fun hHeld => ?_)
  clear hK K
  have KE := Ho.mk (Blk.new wx [.slice none 0 0, .slice none 0 0] 24)
  have KO := Ho.mk (KO.out.bel ((Bel.refl wx).alloc (.cells #[.slice none 0 0, .slice none 0 0] 24)))
  have lt_bO := Nat.lt_of_lt_of_le lt_bO ((Bel.refl wx).alloc (.cells #[.slice none 0 0, .slice none 0 0] 24)).size
  have lt_bE : wx.heap.size < (World.alloc wx (.cells #[.slice none 0 0, .slice none 0 0] 24)).heap.size := by rw [World.size_alloc]; exact Nat.lt_succ_self _
  obtain ⟨bE, hp_bE⟩ : ∃ p, p = wx.heap.size := ⟨_, rfl⟩
  rw [← hp_bE] at KE le_bE lt_bE
  rw [← hp_bE]
  have gt_bO_bE : bO < bE := by omega
  have ne_bO_bE : bO ≠ bE := by omega
  have en_bO_bE : bE ≠ bO := by omega
  clear hp_bE
  generalize World.alloc wx (.cells #[.slice none 0 0, .slice none 0 0] 24) = wx at *
  rotate_left
  go_simp
  have le_bE := hHeld.size
  refine hK.out _ _ (Bel.alloc hHeld _) (fun hHeld => ?_)
  clear hK K
  have KE := Ho.mk (Blk.new wx [.slice none 0 0, .slice none 0 0] 24)
  have lt_bE : wx.heap.size < (World.alloc wx (.cells #[.slice none 0 0, .slice none 0 0] 24)).heap.size := by rw [World.size_alloc]; exact Nat.lt_succ_self _
  obtain ⟨bE, hp_bE⟩ : ∃ p, p = wx.heap.size := ⟨_, rfl⟩
  rw [← hp_bE] at KE le_bE lt_bE
  rw [← hp_bE]
  clear hp_bE
  generalize World.alloc wx (.cells #[.slice none 0 0, .slice none 0 0] 24) = wx at *
  try simp only [Act.put, List.setIfInBounds_toArray, List.set_cons_zero, List.set_cons_succ]
  refine I6.rc2 (i := 8) (j := 10) (fun K hK => ?_) (fun K hK => ?_)
  go_simp
  go_at_call 105
  (with_reducible refine (PT2.out wx).mono ?_); rintro e wx ⟨rfl, bwx⟩
  try go_wp2_with fail
  refine hK.out _ _ (Bel.trans hHeld bwx) (fun hHeld => ?_)
  clear hK K
  have KE := Ho.mk (KE.out.bel bwx)
  have lt_bE := Nat.lt_of_lt_of_le lt_bE bwx.size
  clear bwx
  try simp only [Act.put, List.setIfInBounds_toArray, List.set_cons_zero, List.set_cons_succ]
  refine rc (i := 10) (fun K hK => ?_)
  go_simp
  have le_bO := hHeld.size
  refine hK.out _ _ (Bel.alloc hHeld _) (fun hHeld => ?_)
  clear hK K
  have KO := Ho.mk (Blk.new wx [.slice none 0 0, .slice none 0 0] 24)
  have KE := Ho.mk (KE.out.bel ((Bel.refl wx).alloc (.cells #[.slice none 0 0, .slice none 0 0] 24)))
  have lt_bE := Nat.lt_of_lt_of_le lt_bE ((Bel.refl wx).alloc (.cells #[.slice none 0 0, .slice none 0 0] 24)).size
  have lt_bO : wx.heap.size < (World.alloc wx (.cells #[.slice none 0 0, .slice none 0 0] 24)).heap.size := by rw [World.size_alloc]; exact Nat.lt_succ_self _
  obtain ⟨bO, hp_bO⟩ : ∃ p, p = wx.heap.size := ⟨_, rfl⟩
  rw [← hp_bO] at KO le_bO lt_bO
  rw [← hp_bO]
  have gt_bE_bO : bE < bO := by omega
  have ne_bE_bO : bE ≠ bO := by omega
  have en_bE_bO : bO ≠ bE := by omega
  clear hp_bO
  generalize World.alloc wx (.cells #[.slice none 0 0, .slice none 0 0] 24) = wx at *
  rotate_left
  go_simp
  have le_bO := hHeld.size
  refine hK.out _ _ (Bel.alloc hHeld _) (fun hHeld => ?_)
  clear hK K
  have KO := Ho.mk (Blk.new wx [.slice none 0 0, .slice none 0 0] 24)
  have KE := Ho.mk (KE.out.bel ((Bel.refl wx).alloc (.cells #[.slice none 0 0, .slice none 0 0] 24)))
  have lt_bE := Nat.lt_of_lt_of_le lt_bE ((Bel.refl wx).alloc (.cells #[.slice none 0 0, .slice none 0 0] 24)).size
  have lt_bO : wx.heap.size < (World.alloc wx (.cells #[.slice none 0 0, .slice none 0 0] 24)).heap.size := by rw [World.size_alloc]; exact Nat.lt_succ_self _
  obtain ⟨bO, hp_bO⟩ : ∃ p, p = wx.heap.size := ⟨_, rfl⟩
  rw [← hp_bO] at KO le_bO lt_bO
  rw [← hp_bO]
  have gt_bE_bO : bE < bO := by omega
  have ne_bE_bO : bE ≠ bO := by omega
  have en_bE_bO : bO ≠ bE := by omega
  clear hp_bO
  generalize World.alloc wx (.cells #[.slice none 0 0, .slice none 0 0] 24) = wx at *
  try simp only [Act.put, List.setIfInBounds_toArray, List.set_cons_zero, List.set_cons_succ]
  refine rc (i := 8) (fun K hK => ?_)
  go_simp
  go_at_call 105
  (with_reducible refine (PT2.out wx).mono ?_); rintro e wx ⟨rfl, bwx⟩
  try go_wp2_with fail
  refine hK.out _ _ (Bel.trans hHeld bwx) (fun hHeld => ?_)
  clear hK K
  have KE := Ho.mk (KE.out.bel bwx)
  have KO := Ho.mk (KO.out.bel bwx)
  have lt_bE := Nat.lt_of_lt_of_le lt_bE bwx.size
  have lt_bO := Nat.lt_of_lt_of_le lt_bO bwx.size
  clear bwx
  rotate_left
  go_simp
  have le_bO := hHeld.size
  refine hK.out _ _ (Bel.alloc hHeld _) (fun hHeld => ?_)
  clear hK K
  have KO := Ho.mk (Blk.new wx [.slice none 0 0, .slice none 0 0] 24)
  have lt_bO : wx.heap.size < (World.alloc wx (.cells #[.slice none 0 0, .slice none 0 0] 24)).heap.size := by rw [World.size_alloc]; exact Nat.lt_succ_self _
  obtain ⟨bO, hp_bO⟩ : ∃ p, p = wx.heap.size := ⟨_, rfl⟩
  rw [← hp_bO] at KO le_bO lt_bO
  rw [← hp_bO]
  clear hp_bO
  generalize World.alloc wx (.cells #[.slice none 0 0, .slice none 0 0] 24) = wx at *
  try simp only [Act.put, List.setIfInBounds_toArray, List.set_cons_zero, List.set_cons_succ]
  refine I6.rc2 (i := 8) (j := 9) (fun K hK => ?_) (fun K hK => ?_)
  go_simp
  go_at_call 105
  (with_reducible refine (PT2.out wx).mono ?_); rintro e wx ⟨rfl, bwx⟩
  try go_wp2_with fail
  refine hK.out _ _ (Bel.trans hHeld bwx) (fun hHeld => ?_)
  clear hK K
  have KO := Ho.mk (KO.out.bel bwx)
  have lt_bO := Nat.lt_of_lt_of_le lt_bO bwx.size
  clear bwx
  try simp only [Act.put, List.setIfInBounds_toArray, List.set_cons_zero, List.set_cons_succ]
  refine rc (i := 9) (fun K hK => ?_)
  go_simp
  have le_bE := hHeld.size
  refine hK.out _ _ (Bel.alloc hHeld _) (fun hHeld => ?_)
  clear hK K
  have KE := Ho.mk (Blk.new wx [.slice none 0 0, .slice none 0 0] 24)
  have KO := Ho.mk (KO.out.bel ((Bel.refl wx).alloc (.cells #[.slice none 0 0, .slice none 0 0] 24)))
  have lt_bO := Nat.lt_of_lt_of_le lt_bO ((Bel.refl wx).alloc (.cells #[.slice none 0 0, .slice none 0 0] 24)).size
  have lt_bE : wx.heap.size < (World.alloc wx (.cells #[.slice none 0 0, .slice none 0 0] 24)).heap.size := by rw [World.size_alloc]; exact Nat.lt_succ_self _
  obtain ⟨bE, hp_bE⟩ : ∃ p, p = wx.heap.size := ⟨_, rfl⟩
  rw [← hp_bE] at KE le_bE lt_bE
  rw [← hp_bE]
  have gt_bO_bE : bO < bE := by omega
  have ne_bO_bE : bO ≠ bE := by omega
  have en_bO_bE : bE ≠ bO := by omega
  clear hp_bE
  generalize World.alloc wx (.cells #[.slice none 0 0, .slice none 0 0] 24) = wx at *
  rotate_left
  go_simp
  have le_bE := hHeld.size
  refine hK.out _ _ (Bel.alloc hHeld _) (fun hHeld => ?_)
  clear hK K
  have KE := Ho.mk (Blk.new wx [.slice none 0 0, .slice none 0 0] 24)
  have KO := Ho.mk (KO.out.bel ((Bel.refl wx).alloc (.cells #[.slice none 0 0, .slice none 0 0] 24)))
  have lt_bO := Nat.lt_of_lt_of_le lt_bO ((Bel.refl wx).alloc (.cells #[.slice none 0 0, .slice none 0 0] 24)).size
  have lt_bE : wx.heap.size < (World.alloc wx (.cells #[.slice none 0 0, .slice none 0 0] 24)).heap.size := by rw [World.size_alloc]; exact Nat.lt_succ_self _
  obtain ⟨bE, hp_bE⟩ : ∃ p, p = wx.heap.size := ⟨_, rfl⟩
  rw [← hp_bE] at KE le_bE lt_bE
  rw [← hp_bE]
  have gt_bO_bE : bO < bE := by omega
  have ne_bO_bE : bO ≠ bE := by omega
  have en_bO_bE : bE ≠ bO := by omega
  clear hp_bE
  generalize World.alloc wx (.cells #[.slice none 0 0, .slice none 0 0] 24) = wx at *
  try simp only [Act.put, List.setIfInBounds_toArray, List.set_cons_zero, List.set_cons_succ]
  refine rc (i := 8) (fun K hK => ?_)
  go_simp
  go_at_call 105
  (with_reducible refine (PT2.out wx).mono ?_); rintro e wx ⟨rfl, bwx⟩
  try go_wp2_with fail
  refine hK.out _ _ (Bel.trans hHeld bwx) (fun hHeld => ?_)
  clear hK K
  have KO := Ho.mk (KO.out.bel bwx)
  have KE := Ho.mk (KE.out.bel bwx)
  have lt_bO := Nat.lt_of_lt_of_le lt_bO bwx.size
  have lt_bE := Nat.lt_of_lt_of_le lt_bE bwx.size
  clear bwx
  rotate_left
  go_simp
  have le_bE := hHeld.size
  refine hK.out _ _ (Bel.alloc hHeld _) (fun hHeld => ?_)
  clear hK K
  have KE := Ho.mk (Blk.new wx [.slice none 0 0, .slice none 0 0] 24)
  have lt_bE : wx.heap.size < (World.alloc wx (.cells #[.slice none 0 0, .slice none 0 0] 24)).heap.size := by rw [World.size_alloc]; exact Nat.lt_succ_self _
  obtain ⟨bE, hp_bE⟩ : ∃ p, p = wx.heap.size := ⟨_, rfl⟩
  rw [← hp_bE] at KE le_bE lt_bE
  rw [← hp_bE]
  clear hp_bE
  generalize World.alloc wx (.cells #[.slice none 0 0, .slice none 0 0] 24) = wx at *
  try simp only [Act.put, List.setIfInBounds_toArray, List.set_cons_zero, List.set_cons_succ]
  refine I6.rc2 (i := 2) (j := 10) (fun K hK => ?_) (fun K hK => ?_)
  go_simp
  go_at_call 105
  (with_reducible refine (PT1.out wx).mono ?_); rintro e wx ⟨rfl, bwx⟩
  try go_wp2_with fail
  refine hK.out _ _ (Bel.trans hHeld bwx) (fun hHeld => ?_)
  clear hK K
  have KE := Ho.mk (KE.out.bel bwx)
  have lt_bE := Nat.lt_of_lt_of_le lt_bE bwx.size
  clear bwx
  try simp only [Act.put, List.setIfInBounds_toArray, List.set_cons_zero, List.set_cons_succ]
  refine I6.rc2 (i := 8) (j := 10) (fun K hK => ?_) (fun K hK => ?_)
  go_simp
  go_at_call 105
  (with_reducible refine (PT2.out wx).mono ?_); rintro e wx ⟨rfl, bwx⟩
  try go_wp2_with fail
  refine hK.out _ _ (Bel.trans hHeld bwx) (fun hHeld => ?_)
  clear hK K
  have KE := Ho.mk (KE.out.bel bwx)
  have lt_bE := Nat.lt_of_lt_of_le lt_bE bwx.size
  clear bwx
  try simp only [Act.put, List.setIfInBounds_toArray, List.set_cons_zero, List.set_cons_succ]
  refine rc (i := 10) (fun K hK => ?_)
  go_simp
  have le_bO := hHeld.size
  refine hK.out _ _ (Bel.alloc hHeld _) (fun hHeld => ?_)
  clear hK K
  have KO := Ho.mk (Blk.new wx [.slice none 0 0, .slice none 0 0] 24)
  have KE := Ho.mk (KE.out.bel ((Bel.refl wx).alloc (.cells #[.slice none 0 0, .slice none 0 0] 24)))
  have lt_bE := Nat.lt_of_lt_of_le lt_bE ((Bel.refl wx).alloc (.cells #[.slice none 0 0, .slice none 0 0] 24)).size
  have lt_bO : wx.heap.size < (World.alloc wx (.cells #[.slice none 0 0, .slice none 0 0] 24)).heap.size := by rw [World.size_alloc]; exact Nat.lt_succ_self _
  obtain ⟨bO, hp_bO⟩ : ∃ p, p = wx.heap.size := ⟨_, rfl⟩
  rw [← hp_bO] at KO le_bO lt_bO
  rw [← hp_bO]
  have gt_bE_bO : bE < bO := by omega
  have ne_bE_bO : bE ≠ bO := by omega
  have en_bE_bO : bO ≠ bE := by omega
  clear hp_bO
  generalize World.alloc wx (.cells #[.slice none 0 0, .slice none 0 0] 24) = wx at *
  rotate_left
  go_simp
  have le_bO := hHeld.size
  refine hK.out _ _ (Bel.alloc hHeld _) (fun hHeld => ?_)
  clear hK K
  have KO := Ho.mk (Blk.new wx [.slice none 0 0, .slice none 0 0] 24)
  have KE := Ho.mk (KE.out.bel ((Bel.refl wx).alloc (.cells #[.slice none 0 0, .slice none 0 0] 24)))
  have lt_bE := Nat.lt_of_lt_of_le lt_bE ((Bel.refl wx).alloc (.cells #[.slice none 0 0, .slice none 0 0] 24)).size
  have lt_bO : wx.heap.size < (World.alloc wx (.cells #[.slice none 0 0, .slice none 0 0] 24)).heap.size := by rw [World.size_alloc]; exact Nat.lt_succ_self _
  obtain ⟨bO, hp_bO⟩ : ∃ p, p = wx.heap.size := ⟨_, rfl⟩
  rw [← hp_bO] at KO le_bO lt_bO
  rw [← hp_bO]
  have gt_bE_bO : bE < bO := by omega
  have ne_bE_bO : bE ≠ bO := by omega
  have en_bE_bO : bO ≠ bE := by omega
  clear hp_bO
  generalize World.alloc wx (.cells #[.slice none 0 0, .slice none 0 0] 24) = wx at *
  try simp only [Act.put, List.setIfInBounds_toArray, List.set_cons_zero, List.set_cons_succ]
  refine rc (i := 8) (fun K hK => ?_)
  go_simp
  go_at_call 105
  (with_reducible refine (PT2.out wx).mono ?_); rintro e wx ⟨rfl, bwx⟩
  try go_wp2_with fail
  refine hK.out _ _ (Bel.trans hHeld bwx) (fun hHeld => ?_)
  clear hK K
  have KE := Ho.mk (KE.out.bel bwx)
  have KO := Ho.mk (KO.out.bel bwx)
  have lt_bE := Nat.lt_of_lt_of_le lt_bE bwx.size
  have lt_bO := Nat.lt_of_lt_of_le lt_bO bwx.size
  clear bwx
  rotate_left
  go_simp
  have le_bO := hHeld.size
  refine hK.out _ _ (Bel.alloc hHeld _) (fun hHeld => ?_)
  clear hK K
  have KO := Ho.mk (Blk.new wx [.slice none 0 0, .slice none 0 0] 24)
  have KE := Ho.mk (KE.out.bel ((Bel.refl wx).alloc (.cells #[.slice none 0 0, .slice none 0 0] 24)))
  have lt_bE := Nat.lt_of_lt_of_le lt_bE ((Bel.refl wx).alloc (.cells #[.slice none 0 0, .slice none 0 0] 24)).size
  have lt_bO : wx.heap.size < (World.alloc wx (.cells #[.slice none 0 0, .slice none 0 0] 24)).heap.size := by rw [World.size_alloc]; exact Nat.lt_succ_self _
  obtain ⟨bO, hp_bO⟩ : ∃ p, p = wx.heap.size := ⟨_, rfl⟩
  rw [← hp_bO] at KO le_bO lt_bO
  rw [← hp_bO]
  have gt_bE_bO : bE < bO := by omega
  have ne_bE_bO : bE ≠ bO := by omega
  have en_bE_bO : bO ≠ bE := by omega
  clear hp_bO
  generalize World.alloc wx (.cells #[.slice none 0 0, .slice none 0 0] 24) = wx at *
  try simp only [Act.put, List.setIfInBounds_toArray, List.set_cons_zero, List.set_cons_succ]
  refine rc (i := 2) (fun K hK => ?_)
  go_simp
  go_at_call 105
  (with_reducible refine (PT1.out wx).mono ?_); rintro e wx ⟨rfl, bwx⟩
  try go_wp2_with fail
  refine hK.out _ _ (Bel.trans hHeld bwx) (fun hHeld => ?_)
  clear hK K
  have KE := Ho.mk (KE.out.bel bwx)
  have KO := Ho.mk (KO.out.bel bwx)
  have lt_bE := Nat.lt_of_lt_of_le lt_bE bwx.size
  have lt_bO := Nat.lt_of_lt_of_le lt_bO bwx.size
  clear bwx
  try simp only [Act.put, List.setIfInBounds_toArray, List.set_cons_zero, List.set_cons_succ]
  refine rc (i := 8) (fun K hK => ?_)
  go_simp
  go_at_call 105
  (with_reducible refine (PT2.out wx).mono ?_); rintro e wx ⟨rfl, bwx⟩
  try go_wp2_with fail
  refine hK.out _ _ (Bel.trans hHeld bwx) (fun hHeld => ?_)
  clear hK K
  have KE := Ho.mk (KE.out.bel bwx)
  have KO := Ho.mk (KO.out.bel bwx)
  have lt_bE := Nat.lt_of_lt_of_le lt_bE bwx.size
  have lt_bO := Nat.lt_of_lt_of_le lt_bO bwx.size
  clear bwx
  rotate_left
  go_simp
  have le_bO := hHeld.size
  refine hK.out _ _ (Bel.alloc hHeld _) (fun hHeld => ?_)
  clear hK K
  have KO := Ho.mk (Blk.new wx [.slice none 0 0, .slice none 0 0] 24)
  have lt_bO : wx.heap.size < (World.alloc wx (.cells #[.slice none 0 0, .slice none 0 0] 24)).heap.size := by rw [World.size_alloc]; exact Nat.lt_succ_self _
  obtain ⟨bO, hp_bO⟩ : ∃ p, p = wx.heap.size := ⟨_, rfl⟩
  rw [← hp_bO] at KO le_bO lt_bO
  rw [← hp_bO]
  clear hp_bO
  generalize World.alloc wx (.cells #[.slice none 0 0, .slice none 0 0] 24) = wx at *
  try simp only [Act.put, List.setIfInBounds_toArray, List.set_cons_zero, List.set_cons_succ]
  refine I6.rc2 (i := 2) (j := 9) (fun K hK => ?_) (fun K hK => ?_)
  go_simp
  go_at_call 105
  (with_reducible refine (PT1.out wx).mono ?_); rintro e wx ⟨rfl, bwx⟩
  try go_wp2_with fail
  refine hK.out _ _ (Bel.trans hHeld bwx) (fun hHeld => ?_)
  clear hK K
  have KO := Ho.mk (KO.out.bel bwx)
  have lt_bO := Nat.lt_of_lt_of_le lt_bO bwx.size
  clear bwx
  try simp only [Act.put, List.setIfInBounds_toArray, List.set_cons_zero, List.set_cons_succ]
  refine I6.rc2 (i := 8) (j := 9) (fun K hK => ?_) (fun K hK => ?_)
  go_simp
  go_at_call 105
  (with_reducible refine (PT2.out wx).mono ?_); rintro e wx ⟨rfl, bwx⟩
  try go_wp2_with fail
  refine hK.out _ _ (Bel.trans hHeld bwx) (fun hHeld => ?_)
  clear hK K
  have KO := Ho.mk (KO.out.bel bwx)
  have lt_bO := Nat.lt_of_lt_of_le lt_bO bwx.size
  clear bwx
  try simp only [Act.put, List.setIfInBounds_toArray, List.set_cons_zero, List.set_cons_succ]
  refine rc (i := 9) (fun K hK => ?_)
  go_simp
  have le_bE := hHeld.size
  refine hK.out _ _ (Bel.alloc hHeld _) (fun hHeld => ?_)
  clear hK K
  have KE := Ho.mk (Blk.new wx [.slice none 0 0, .slice none 0 0] 24)
  have KO := Ho.mk (KO.out.bel ((Bel.refl wx).alloc (.cells #[.slice none 0 0, .slice none 0 0] 24)))
  have lt_bO := Nat.lt_of_lt_of_le lt_bO ((Bel.refl wx).alloc (.cells #[.slice none 0 0, .slice none 0 0] 24)).size
  have lt_bE : wx.heap.size < (World.alloc wx (.cells #[.slice none 0 0, .slice none 0 0] 24)).heap.size := by rw [World.size_alloc]; exact Nat.lt_succ_self _
  obtain ⟨bE, hp_bE⟩ : ∃ p, p = wx.heap.size := ⟨_, rfl⟩
  rw [← hp_bE] at KE le_bE lt_bE
  rw [← hp_bE]
  have gt_bO_bE : bO < bE := by omega
  have ne_bO_bE : bO ≠ bE := by omega
  have en_bO_bE : bE ≠ bO := by omega
  clear hp_bE
  generalize World.alloc wx (.cells #[.slice none 0 0, .slice none 0 0] 24) = wx at *
  rotate_left
  go_simp
  have le_bE := hHeld.size
  refine hK.out _ _ (Bel.alloc hHeld _) (fun hHeld => ?_)
  clear hK K
  have KE := Ho.mk (Blk.new wx [.slice none 0 0, .slice none 0 0] 24)
  have KO := Ho.mk (KO.out.bel ((Bel.refl wx).alloc (.cells #[.slice none 0 0, .slice none 0 0] 24)))
  have lt_bO := Nat.lt_of_lt_of_le lt_bO ((Bel.refl wx).alloc (.cells #[.slice none 0 0, .slice none 0 0] 24)).size
  have lt_bE : wx.heap.size < (World.alloc wx (.cells #[.slice none 0 0, .slice none 0 0] 24)).heap.size := by rw [World.size_alloc]; exact Nat.lt_succ_self _
  obtain ⟨bE, hp_bE⟩ : ∃ p, p = wx.heap.size := ⟨_, rfl⟩
  rw [← hp_bE] at KE le_bE lt_bE
  rw [← hp_bE]
  have gt_bO_bE : bO < bE := by omega
  have ne_bO_bE : bO ≠ bE := by omega
  have en_bO_bE : bE ≠ bO := by omega
  clear hp_bE
  generalize World.alloc wx (.cells #[.slice none 0 0, .slice none 0 0] 24) = wx at *
  try simp only [Act.put, List.setIfInBounds_toArray, List.set_cons_zero, List.set_cons_succ]
  refine rc (i := 8) (fun K hK => ?_)
  go_simp
  go_at_call 105
  (with_reducible refine (PT2.out wx).mono ?_); rintro e wx ⟨rfl, bwx⟩
  try go_wp2_with fail
  refine hK.out _ _ (Bel.trans hHeld bwx) (fun hHeld => ?_)
  clear hK K
  have KO := Ho.mk (KO.out.bel bwx)
  have KE := Ho.mk (KE.out.bel bwx)
  have lt_bO := Nat.lt_of_lt_of_le lt_bO bwx.size
  have lt_bE := Nat.lt_of_lt_of_le lt_bE bwx.size
  clear bwx
  rotate_left
  go_simp
  have le_bE := hHeld.size
  refine hK.out _ _ (Bel.alloc hHeld _) (fun hHeld => ?_)
  clear hK K
  have KE := Ho.mk (Blk.new wx [.slice none 0 0, .slice none 0 0] 24)
  have KO := Ho.mk (KO.out.bel ((Bel.refl wx).alloc (.cells #[.slice none 0 0, .slice none 0 0] 24)))
  have lt_bO := Nat.lt_of_lt_of_le lt_bO ((Bel.refl wx).alloc (.cells #[.slice none 0 0, .slice none 0 0] 24)).size
  have lt_bE : wx.heap.size < (World.alloc wx (.cells #[.slice none 0 0, .slice none 0 0] 24)).heap.size := by rw [World.size_alloc]; exact Nat.lt_succ_self _
  obtain ⟨bE, hp_bE⟩ : ∃ p, p = wx.heap.size := ⟨_, rfl⟩
  rw [← hp_bE] at KE le_bE lt_bE
  rw [← hp_bE]
  have gt_bO_bE : bO < bE := by omega
  have ne_bO_bE : bO ≠ bE := by omega
  have en_bO_bE : bE ≠ bO := by omega
  clear hp_bE
  generalize World.alloc wx (.cells #[.slice none 0 0, .slice none 0 0] 24) = wx at *
  try simp only [Act.put, List.setIfInBounds_toArray, List.set_cons_zero, List.set_cons_succ]
  refine rc (i := 2) (fun K hK => ?_)
  go_simp
  go_at_call 105
  (with_reducible refine (PT1.out wx).mono ?_); rintro e wx ⟨rfl, bwx⟩
  try go_wp2_with fail
  refine hK.out _ _ (Bel.trans hHeld bwx) (fun hHeld => ?_)
  clear hK K
  have KO := Ho.mk (KO.out.bel bwx)
  have KE := Ho.mk (KE.out.bel bwx)
  have lt_bO := Nat.lt_of_lt_of_le lt_bO bwx.size
  have lt_bE := Nat.lt_of_lt_of_le lt_bE bwx.size
  clear bwx
  try simp only [Act.put, List.setIfInBounds_toArray, List.set_cons_zero, List.set_cons_succ]
  refine rc (i := 8) (fun K hK => ?_)
  go_simp
  go_at_call 105
  (with_reducible refine (PT2.out wx).mono ?_); rintro e wx ⟨rfl, bwx⟩
  try go_wp2_with fail
  refine hK.out _ _ (Bel.trans hHeld bwx) (fun hHeld => ?_)
  clear hK K
  have KO := Ho.mk (KO.out.bel bwx)
  have KE := Ho.mk (KE.out.bel bwx)
  have lt_bO := Nat.lt_of_lt_of_le lt_bO bwx.size
  have lt_bE := Nat.lt_of_lt_of_le lt_bE bwx.size
  clear bwx
  rotate_left
  all_goals
   try simp only [Act.put, List.setIfInBounds_toArray, List.set_cons_zero, List.set_cons_succ]
   have y0 := KE.out.cell (i := 0) rfl
   have y1 := KE.out.cell (i := 1) rfl
   have x0 := KE.out.free 0
   have x1 := KE.out.free 1
   refine rc (i := 11) (fun K hK => ?_)
   go_simp
   have KO := Ho.mk ((KO.out.far (p := ⟨bE, 0, none⟩) (by dsimp only; omega) (.slice (some ⟨b, f, none⟩) half c)).far (p := ⟨bE, 1, none⟩) (by dsimp only; omega) (.slice (some ⟨b', f, none⟩) half c'))
   have KE := Ho.mk ((KE.out.set 0 (.slice (some ⟨b, f, none⟩) half c)).set 1 (.slice (some ⟨b', f, none⟩) half c'))
   simp only [List.set_cons_zero, List.set_cons_succ] at KE
   refine hK.out _ _ ⟨((hHeld.out.setCell (p := ⟨bE, 0, none⟩) (by dsimp only; omega) (.slice (some ⟨b, f, none⟩) half c)).setCell (p := ⟨bE, 1, none⟩) (by dsimp only; omega) (.slice (some ⟨b', f, none⟩) half c'))⟩ (fun hHeld => ?_)
   clear hK K y0 x0 y1 x1
   have lt_bE : bE < (World.setCell (World.setCell wx ⟨bE, 0, none⟩ (.slice (some ⟨b, f, none⟩) half c)) ⟨bE, 1, none⟩ (.slice (some ⟨b', f, none⟩) half c')).heap.size := by simpa [World.setCell] using lt_bE
   have lt_bO : bO < (World.setCell (World.setCell wx ⟨bE, 0, none⟩ (.slice (some ⟨b, f, none⟩) half c)) ⟨bE, 1, none⟩ (.slice (some ⟨b', f, none⟩) half c')).heap.size := by simpa [World.setCell] using lt_bO
   generalize World.setCell (World.setCell wx ⟨bE, 0, none⟩ (.slice (some ⟨b, f, none⟩) half c)) ⟨bE, 1, none⟩ (.slice (some ⟨b', f, none⟩) half c') = wx at *
   try simp only [Act.put, List.setIfInBounds_toArray, List.set_cons_zero, List.set_cons_succ]
   have y0 := KO.out.cell (i := 0) rfl
   have y1 := KO.out.cell (i := 1) rfl
   have x0 := KO.out.free 0
   have x1 := KO.out.free 1
   refine rc (i := 12) (fun K hK => ?_)
   go_simp
   have KE := Ho.mk ((KE.out.far (p := ⟨bO, 0, none⟩) (by dsimp only; omega) (.slice (some ⟨b, f + half, none⟩) half (c - half))).far (p := ⟨bO, 1, none⟩) (by dsimp only; omega) (.slice (some ⟨b', f + half, none⟩) half (c' - half)))
   have KO := Ho.mk ((KO.out.set 0 (.slice (some ⟨b, f + half, none⟩) half (c - half))).set 1 (.slice (some ⟨b', f + half, none⟩) half (c' - half)))
   simp only [List.set_cons_zero, List.set_cons_succ] at KO
   refine hK.out _ _ ⟨((hHeld.out.setCell (p := ⟨bO, 0, none⟩) (by dsimp only; omega) (.slice (some ⟨b, f + half, none⟩) half (c - half))).setCell (p := ⟨bO, 1, none⟩) (by dsimp only; omega) (.slice (some ⟨b', f + half, none⟩) half (c' - half)))⟩ (fun hHeld => ?_)
   clear hK K y0 x0 y1 x1
   have lt_bE : bE < (World.setCell (World.setCell wx ⟨bO, 0, none⟩ (.slice (some ⟨b, f + half, none⟩) half (c - half))) ⟨bO, 1, none⟩ (.slice (some ⟨b', f + half, none⟩) half (c' - half))).heap.size := by simpa [World.setCell] using lt_bE
   have lt_bO : bO < (World.setCell (World.setCell wx ⟨bO, 0, none⟩ (.slice (some ⟨b, f + half, none⟩) half (c - half))) ⟨bO, 1, none⟩ (.slice (some ⟨b', f + half, none⟩) half (c' - half))).heap.size := by simpa [World.setCell] using lt_bO
   generalize World.setCell (World.setCell wx ⟨bO, 0, none⟩ (.slice (some ⟨b, f + half, none⟩) half (c - half))) ⟨bO, 1, none⟩ (.slice (some ⟨b', f + half, none⟩) half (c' - half)) = wx at *
   try simp only [Act.put, List.setIfInBounds_toArray, List.set_cons_zero, List.set_cons_succ]
   refine wpAnyH_done (by kernel_rfl) ?_ _
   go_wp2_with fail
   go_meet
   exact ⟨bE, bO, rfl, rfl, KE, KO, ⟨hHeld⟩, ⟨by first | exact ne_bE_bO | exact en_bO_bE⟩, ⟨by omega⟩, ⟨by omega⟩⟩
 case rest =>
  obtain ⟨bE, bO, rfl, rfl, KE, KO, HB, HNE, LE, LO⟩ := hcut
  obtain ⟨wo, rfl⟩ : ∃ wo : World, wo = wc := ⟨_, rfl⟩
  have n1 : bE ≠ b := by have := LE.out; omega
  have n2 : bE ≠ b' := by have := LE.out; omega
  have n3 : bO ≠ b := by have := LO.out; omega
  have n4 : bO ≠ b' := by have := LO.out; omega
  have G0 := Ho.mk (g0.out.trans HB.out)
  have NE := Ho.mk (And.intro (And.intro n1 n2) (And.intro n3 n4))
  clear y0 y1 KV HB g0 PT1 PT2 n1 n2 n3 n4 HNE LE LO lb lb' hs
  go_wp2_with fail
  go_loopw [28] (fun v wr => ∃ (i : Nat), i ≤ half ∧ v = .int .i64 i ∧ Ho (Fz wr b (mergeS f half tw (X, Y) i).1) ∧ Ho (Fz wr b' (mergeS f half tw (X, Y) i).2) ∧ Ho (Gr2 b b' wo wr)) (fun v _ => half - (intOf v).toNat)
  case atStart => exact ⟨0, Nat.zero_le _, rfl, ⟨K1.out.bel G0.out⟩, ⟨K2.out.bel G0.out⟩, ⟨Gr2.refl _ _ _⟩⟩
  case round =>
   obtain ⟨i, hi, rfl, FX, FY, HG⟩ := hrel
   rcases Nat.lt_or_ge i half with hlt | hge
   ·have HL := Ho.mk (mergeS_len f half tw (X, Y) i)
    obtain ⟨st, hst⟩ : ∃ st, st = mergeS f half tw (X, Y) i := ⟨_, rfl⟩
    have HST := Ho.mk hst
    rw [← hst] at FX FY HL
    clear hst
    have hL1 : Ho (st.1.length = N) := ⟨HL.out.1.trans HX.out⟩
    have hL2 : Ho (st.2.length = N) := ⟨HL.out.2.trans HY.out⟩
    have KE1 := Ho.mk (HG.out.blk KE.out NE.out.1.1 NE.out.1.2)
    have KO1 := Ho.mk (HG.out.blk KO.out NE.out.2.1 NE.out.2.2)
    have e0 := KE1.out.cell (i := 0) rfl
    have e1 := KE1.out.cell (i := 1) rfl
    have o0 := KO1.out.cell (i := 0) rfl
    have o1 := KO1.out.cell (i := 1) rfl
    obtain ⟨r1, y1, r1l, r1c⟩ := FX.out.at_ (i := f + half + i) (by rw [hL1.out]; omega)
    obtain ⟨r2, y2, r2l, r2c⟩ := FY.out.at_ (i := f + half + i) (by rw [hL2.out]; omega)
    obtain ⟨r3, y3, r3l, r3c⟩ := FX.out.at_ (i := f + i) (by rw [hL1.out]; omega)
    obtain ⟨r4, y4, r4l, r4c⟩ := FY.out.at_ (i := f + i) (by rw [hL2.out]; omega)
    have H12 := Ho.mk (And.intro (And.intro r1l r1c) (And.intro r2l r2c))
    have H34 := Ho.mk (And.intro (And.intro r3l r3c) (And.intro r4l r4c))
    clear r1l r1c r2l r2c r3l r3c r4l r4c
    go_upto_region 6 with fail
    go_region
    go_upto_if 42 with fail
    go_cut [8, 9, 10, 11] from 42 to 56 (fun s8 s9 s10 s11 wy => ∃ (r s : Nat), s8 = .float .f64 r ∧ s9 = .float .f64 s ∧ Ho (r < 2 * sgnW ∧ s < 2 * sgnW) ∧ Ho (cn r = (tw1 opsN tw i (nthN st.1 (f + half + i)) (nthN st.2 (f + half + i))).1 ∧ cn s = (tw1 opsN tw i (nthN st.1 (f + half + i)) (nthN st.2 (f + half + i))).2) ∧ Ho (Bel wr wy))
    case first =>
     by_cases hi0 : i = 0
     ·subst hi0
      go_wp2_with fail
      go_meet
      exact ⟨r1, r2, rfl, rfl, ⟨H12.out.1.1, H12.out.2.1⟩, ⟨by rw [tw1, if_pos rfl]; exact H12.out.1.2, by rw [tw1, if_pos rfl]; exact H12.out.2.2⟩, ⟨(Bel.refl _).drew⟩⟩
     ·have hi1 : 0 < i := Nat.pos_of_ne_zero hi0
      have AI := Ho.mk (fun w (g : Bel wr w) => A0.out i hi1 hlt w ((gr2_bel G0.out b b').trans (HG.out.tb g)))
      go_wp2_with (go_at_call 103; (with_reducible refine (AI.out _ (Bel.refl _).drew).mono ?_); rintro e w7 ⟨r7, s7, rfl, l7, c7, b7⟩; have H7 := Ho.mk (And.intro l7 c7); clear l7 c7)
      have TU := Ho.mk (fun w => P2.dCTurn w H12.out.1.1 H12.out.2.1 H7.out.1.1 H7.out.1.2)
      go_wp2_with (go_at_call 86; (with_reducible refine (TU.out _).mono ?_); rintro e w8 ⟨r8, s8, rfl, l8, c8, b8⟩; have H8 := Ho.mk (And.intro l8 c8); clear l8 c8)
      go_meet
      exact ⟨r8, s8, rfl, rfl, ⟨H8.out.1.1, H8.out.1.2⟩, ⟨by rw [tw1, if_neg hi0, H8.out.2.1, H12.out.1.2, H12.out.2.2, H7.out.2.1, H7.out.2.2]; rfl, by rw [tw1, if_neg hi0, H8.out.2.2, H12.out.1.2, H12.out.2.2, H7.out.2.1, H7.out.2.2]; rfl⟩, ⟨((Bel.refl _).drew.trans b7).trans b8⟩⟩
    case rest =>
     obtain ⟨r, s, rfl, rfl, HR, HC, HB⟩ := hcut
     have KE2 := Ho.mk ((KE1.out.bel HB.out).bel (Bel.refl _).drew)
     have KO2 := Ho.mk ((KO1.out.bel HB.out).bel (Bel.refl _).drew)
     have FX := Ho.mk ((FX.out.bel HB.out).bel (Bel.refl _).drew)
     have FY := Ho.mk ((FY.out.bel HB.out).bel (Bel.refl _).drew)
     have GR := Ho.mk ((HG.out.tb HB.out).drew)
     have LX := hL1
     have LY := hL2
     have AD := Ho.mk (fun w => P2.dCAdd w H34.out.1.1 H34.out.2.1 HR.out.1 HR.out.2)
     have SU := Ho.mk (fun w => P2.dCSub w H34.out.1.1 H34.out.2.1 HR.out.1 HR.out.2)
     have e0 := HB.out.cell e0
     have e1 := HB.out.cell e1
     have y3 := HB.out.cell y3
     have y4 := HB.out.cell y4
     clear o0 o1 y1 y2 KE1 KO1 HB HG hL1 hL2
     go_upto_region 10 with fail
     go_region
     go_upto_region 11 with fail
     clear e0 e1 y3 y4
     generalize wc.drew = wz at *
     refine wp_region_held_drew (S := fun w' => Blk w' bE 24 [.slice (some ⟨b, f, none⟩) half c, .slice (some ⟨b', f, none⟩) half c']) (by kernel_rfl) (KE2.out.bel (Bel.refl _).drew) (fun hHeld => ?_)
     (try dsimp only at hHeld)
     refine rt (i := 0) hHeld ?_
     refine rl (i := 1) (v := ?_) hHeld (fun w hSw => ?_) ?_
     rotate_left
     ·(have z0 := hSw.cell (i := 0) rfl; have z1 := hSw.cell (i := 1) rfl; go_simp; try (with_reducible rfl))
     refine rt (i := 2) hHeld ?_
     refine rt (i := 3) hHeld ?_
     refine rl (i := 4) (v := ?_) hHeld (fun w hSw => ?_) ?_
     rotate_left
     ·(have z0 := hSw.cell (i := 0) rfl; have z1 := hSw.cell (i := 1) rfl; go_simp; try (with_reducible rfl))
     refine rt (i := 5) hHeld ?_
     refine rt (i := 6) hHeld ?_
     refine rt (i := 7) hHeld ?_
     refine rt (i := 8) hHeld ?_
     refine rt (i := 9) hHeld ?_
     try simp only [Act.put, List.setIfInBounds_toArray, List.set_cons_zero, List.set_cons_succ]
     refine rc (i := 10) (fun K hK => ?_)
     go_simp
     go_at_call 81
     (with_reducible refine (AD.out _).mono ?_); rintro e wqa ⟨ra, sa, rfl, la, ca, bqa⟩
     try go_wp2_with fail
     refine hK.out _ _ (Blk.bel hHeld bqa) (fun hHeld => ?_)
     clear hK K
     refine rt (i := 11) hHeld ?_
     refine rt (i := 12) hHeld ?_
     refine rt (i := 13) hHeld ?_
     refine rt (i := 14) hHeld ?_
     have FX := Ho.mk (FX.out.bel ((Bel.refl wz).drew.trans bqa))
     have FY := Ho.mk (FY.out.bel ((Bel.refl wz).drew.trans bqa))
     have GR := Ho.mk (GR.out.tb ((Bel.refl wz).drew.trans bqa))
     obtain ⟨_, p1, _, _⟩ := FX.out.at_ (i := f + i) (by rw [LX.out]; omega)
     have p2 := FX.out.free (f + i)
     try simp only [Act.put, List.setIfInBounds_toArray, List.set_cons_zero, List.set_cons_succ]
     refine rc (i := 15) (fun K hK => ?_)
     go_simp
     refine hK.out _ _ (Blk.far hHeld (p := ⟨b, f + i, none⟩) (by dsimp only; exact NE.out.1.1) _) (fun hHeld => ?_)
     clear hK K
     have FX := Ho.mk (FX.out.set (f + i) la.1 ca.1)
     have FY := Ho.mk (FY.out.far (p := ⟨b, f + i, none⟩) (by dsimp only; exact Ne.symm hb) (.float .f64 ra))
     have GR := Ho.mk (GR.out.set (p := ⟨b, f + i, none⟩) (.inl rfl) (.float .f64 ra))
     clear p1 p2
     generalize World.setCell wqa ⟨b, f + i, none⟩ (.float .f64 ra) = wra at *
     refine rt (i := 16) hHeld ?_
     obtain ⟨_, p1, _, _⟩ := FY.out.at_ (i := f + i) (by rw [LY.out]; omega)
     have p2 := FY.out.free (f + i)
     try simp only [Act.put, List.setIfInBounds_toArray, List.set_cons_zero, List.set_cons_succ]
     refine rc (i := 17) (fun K hK => ?_)
     go_simp
     refine hK.out _ _ (Blk.far hHeld (p := ⟨b', f + i, none⟩) (by dsimp only; exact NE.out.1.2) _) (fun hHeld => ?_)
     clear hK K
     have FY := Ho.mk (FY.out.set (f + i) la.2 ca.2)
     have FX := Ho.mk (FX.out.far (p := ⟨b', f + i, none⟩) (by dsimp only; exact hb) (.float .f64 sa))
     have GR := Ho.mk (GR.out.set (p := ⟨b', f + i, none⟩) (.inr rfl) (.float .f64 sa))
     clear p1 p2
     generalize World.setCell wra ⟨b', f + i, none⟩ (.float .f64 sa) = wsa at *
     try simp only [Act.put, List.setIfInBounds_toArray, List.set_cons_zero, List.set_cons_succ]
     refine wpAnyH_done (by kernel_rfl) ?_ _
     have LX : Ho ((st.1.set (f + i) (fadd (cn r3) (cn r))).length = N) := ⟨by rw [List.length_set]; exact LX.out⟩
     have LY : Ho ((st.2.set (f + i) (fadd (cn r4) (cn s))).length = N) := ⟨by rw [List.length_set]; exact LY.out⟩
     go_upto_region 12 with fail
     have KO2 := Ho.mk (GR.out.blk KO.out NE.out.2.1 NE.out.2.2)
     clear hHeld
     refine wp_region_held_drew (S := fun w' => Blk w' bO 24 [.slice (some ⟨b, f + half, none⟩) half (c - half), .slice (some ⟨b', f + half, none⟩) half (c' - half)]) (by kernel_rfl) (KO2.out.bel (Bel.refl _).drew) (fun hHeld => ?_)
     (try dsimp only at hHeld)
     refine rt (i := 0) hHeld ?_
     refine rl (i := 1) (v := ?_) hHeld (fun w hSw => ?_) ?_
     rotate_left
     ·(have z0 := hSw.cell (i := 0) rfl; have z1 := hSw.cell (i := 1) rfl; go_simp; try (with_reducible rfl))
     refine rt (i := 2) hHeld ?_
     refine rt (i := 3) hHeld ?_
     refine rl (i := 4) (v := ?_) hHeld (fun w hSw => ?_) ?_
     rotate_left
     ·(have z0 := hSw.cell (i := 0) rfl; have z1 := hSw.cell (i := 1) rfl; go_simp; try (with_reducible rfl))
     refine rt (i := 5) hHeld ?_
     refine rt (i := 6) hHeld ?_
     refine rt (i := 7) hHeld ?_
     refine rt (i := 8) hHeld ?_
     refine rt (i := 9) hHeld ?_
     try simp only [Act.put, List.setIfInBounds_toArray, List.set_cons_zero, List.set_cons_succ]
     refine rc (i := 10) (fun K hK => ?_)
     go_simp
     go_at_call 82
     (with_reducible refine (SU.out _).mono ?_); rintro e wqb ⟨rb, sb, rfl, lb, cb, bqb⟩
     try go_wp2_with fail
     refine hK.out _ _ (Blk.bel hHeld bqb) (fun hHeld => ?_)
     clear hK K
     refine rt (i := 11) hHeld ?_
     refine rt (i := 12) hHeld ?_
     refine rt (i := 13) hHeld ?_
     refine rt (i := 14) hHeld ?_
     have FX := Ho.mk (FX.out.bel ((Bel.refl wsa).drew.trans bqb))
     have FY := Ho.mk (FY.out.bel ((Bel.refl wsa).drew.trans bqb))
     have GR := Ho.mk (GR.out.tb ((Bel.refl wsa).drew.trans bqb))
     obtain ⟨_, p1, _, _⟩ := FX.out.at_ (i := f + half + i) (by rw [LX.out]; omega)
     have p2 := FX.out.free (f + half + i)
     try simp only [Act.put, List.setIfInBounds_toArray, List.set_cons_zero, List.set_cons_succ]
     refine rc (i := 15) (fun K hK => ?_)
     go_simp
     refine hK.out _ _ (Blk.far hHeld (p := ⟨b, f + half + i, none⟩) (by dsimp only; exact NE.out.2.1) _) (fun hHeld => ?_)
     clear hK K
     have FX := Ho.mk (FX.out.set (f + half + i) lb.1 cb.1)
     have FY := Ho.mk (FY.out.far (p := ⟨b, f + half + i, none⟩) (by dsimp only; exact Ne.symm hb) (.float .f64 rb))
     have GR := Ho.mk (GR.out.set (p := ⟨b, f + half + i, none⟩) (.inl rfl) (.float .f64 rb))
     clear p1 p2
     generalize World.setCell wqb ⟨b, f + half + i, none⟩ (.float .f64 rb) = wrb at *
     refine rt (i := 16) hHeld ?_
     obtain ⟨_, p1, _, _⟩ := FY.out.at_ (i := f + half + i) (by rw [LY.out]; omega)
     have p2 := FY.out.free (f + half + i)
     try simp only [Act.put, List.setIfInBounds_toArray, List.set_cons_zero, List.set_cons_succ]
     refine rc (i := 17) (fun K hK => ?_)
     go_simp
     refine hK.out _ _ (Blk.far hHeld (p := ⟨b', f + half + i, none⟩) (by dsimp only; exact NE.out.2.2) _) (fun hHeld => ?_)
     clear hK K
     have FY := Ho.mk (FY.out.set (f + half + i) lb.2 cb.2)
     have FX := Ho.mk (FX.out.far (p := ⟨b', f + half + i, none⟩) (by dsimp only; exact hb) (.float .f64 sb))
     have GR := Ho.mk (GR.out.set (p := ⟨b', f + half + i, none⟩) (.inr rfl) (.float .f64 sb))
     clear p1 p2
     generalize World.setCell wrb ⟨b', f + half + i, none⟩ (.float .f64 sb) = wsb at *
     try simp only [Act.put, List.setIfInBounds_toArray, List.set_cons_zero, List.set_cons_succ]
     refine wpAnyH_done (by kernel_rfl) ?_ _
     clear hHeld
     go_wp2_with fail
     go_roundw
     case rel =>
      have e : mergeS f half tw (X, Y) (i + 1) = ((st.1.set (f + i) (fadd (cn r3) (cn r))).set (f + half + i) (fsub (cn r3) (cn r)), (st.2.set (f + i) (fadd (cn r4) (cn s))).set (f + half + i) (fsub (cn r4) (cn s))) := by
       rw [mergeS_succ, ← HST.out, H34.out.1.2, H34.out.2.2, HC.out.1, HC.out.2]; rfl
      refine ⟨i + 1, by omega, by simp, ⟨?_⟩, ⟨?_⟩, GR⟩
      ·rw [e]; exact FX.out
      ·rw [e]; exact FY.out
     case measure => simp [intOf]; omega
   ·obtain rfl : i = half := by omega
    go_wp2
    go_end0
    exact ⟨rfl, FX.out, FY.out, (gr2_bel G0.out b b').trans HG.out⟩
end P7
namespace P8
open Ieee Go Go.RowKit Go.Proofs Go.Proofs.YtnbdoidccacdnaaGreatDoor Ow Pl Dp Dt Gp F1 I0 U0 W0 S4 S6 P0 P1 P2 M0 M1 M2 M3 P3 P4 P5 P6 P7 W4
attribute [local go_sem ↓] Go.wp_at_zero Go.wp_at_succ
theorem tab_ne {w : World} {b : Nat} {X : List Nat} (T : Tab w) (h : Fz w b X) (hl : 0 < X.length) : 2 ≠ b := by
 rintro rfl
 have h1 := T.cell 0 (by decide)
 obtain ⟨r, h2, _⟩ := h.at_ hl
 rw [h1] at h2; cases h2
theorem logI_pow {p : Nat} (hp : p ≤ 10) : logI (2 ^ p) = p := by
 have : ∀ p : Fin 11, logI (2 ^ p.val) = (p.val : Int) := by decide
 exact this ⟨p, by omega⟩
def qOf (v : Value) (w : World) : Nat := match v with
 | .pointer (some a) => match w.cell? a with
  | some (.int _ n) => n.toNat
  | _ => 0
 | _ => 0
theorem qOf_blk {w : World} {b : Nat} {t : TypeId} {n : Int} (h : Blk w b t [.int .i64 n]) : qOf (.pointer (some ⟨b, 0, none⟩)) w = n.toNat := by
 unfold qOf; simp only [h.cell (i := 0) rfl]
def stageS (p : Nat) (tab : Nat → Nat × Nat) (st : List Nat × List Nat) (k : Nat) : List Nat × List Nat := loopN (fun q st => stageG opsN (2 ^ q) (2 ^ (p - (q + 1))) (fun k => tab (k * 2 ^ (p - (q + 1)))) st) k st
theorem stageS_len {p : Nat} (tab : Nat → Nat × Nat) {st : List Nat × List Nat} (h1 : st.1.length = 2 ^ p) (h2 : st.2.length = 2 ^ p) {k : Nat} (hk : k ≤ p) : (stageS p tab st k).1.length = 2 ^ p ∧ (stageS p tab st k).2.length = 2 ^ p :=
 stages_len opsN (fun q k => tab (k * 2 ^ (p - (q + 1)))) h1 h2 hk
theorem stageS_succ (p : Nat) (tab : Nat → Nat × Nat) (st : List Nat × List Nat) (k : Nat) : stageS p tab st (k + 1) = stageG opsN (2 ^ k) (2 ^ (p - (k + 1))) (fun j => tab (j * 2 ^ (p - (k + 1)))) (stageS p tab st k) := rfl
theorem _root_.Go.Proofs.YtnbdoidccacdnaaGreatDoor.W4.Gr2.fk {b c : Nat} {w w' : World} (h : Gr2 b c w w') {b' : Nat} {X : List Nat} (k : Fk w b' X) (n1 : b' ≠ b) (n2 : b' ≠ c) : Fk w' b' X := by
 obtain ⟨cs, h1, h2⟩ := k.out; exact ⟨cs, h.blk h1 n1 n2, h2⟩
theorem nth_range {m k : Nat} (f : Nat → Nat) (h : k < m) : nthN ((List.range m).map f) k = f k := nthG_map opsN f h
def mergesS (half : Nat) (tw : Nat → Nat × Nat) (st : List Nat × List Nat) (j : Nat) : List Nat × List Nat := loopN (fun i st => mergeG opsN (i * (2 * half)) half tw st) j st
theorem mergesS_len {half : Nat} {tw : Nat → Nat × Nat} {st : List Nat × List Nat} (j : Nat) : (mergesS half tw st j).1.length = st.1.length ∧ (mergesS half tw st j).2.length = st.2.length := by
 refine loopN_inv (I := fun _ (s : List Nat × List Nat) => s.1.length = st.1.length ∧ s.2.length = st.2.length) j ⟨rfl, rfl⟩ ?_
 intro k s _ h
 have := mergeS_len (k * (2 * half)) half tw s half
 exact ⟨this.1.trans h.1, this.2.trans h.2⟩
theorem mergesS_succ (half : Nat) (tw : Nat → Nat × Nat) (st : List Nat × List Nat) (j : Nat) : mergesS half tw st (j + 1) = mergeG opsN (j * (2 * half)) half tw (mergesS half tw st j) := rfl
theorem swapG_len (od X : List Nat) : (swapG opsN od X).length = X.length := swapK_len od X od.length
theorem dInto {p N c c' b b' : Nat} {X Y : List Nat} (W0 : World) (T : Tab W0) (KX : Fz W0 b X) (KY : Fz W0 b' Y) (hb : b ≠ b') (hN : N = 2 ^ p) (hX : X.length = N) (hY : Y.length = N) (hp7 : p ≤ 7) (hc : N ≤ c) (hc' : N ≤ c') (hC : c ≤ 9223372036854775807) (hC' : c' ≤ 9223372036854775807) :
  Calls Tryz.prog 55 #[.agg #[.slice (some ⟨b, 0, none⟩) N c, .slice (some ⟨b', 0, none⟩) N c']] W0
   fun e w' => e = .returned (.int .i64 0) ∧ Fz w' b (intoG opsN (bitsG p) p (tabW p) (X, Y)).1 ∧ Fz w' b' (intoG opsN (bitsG p) p (tabW p) (X, Y)).2 ∧ Gr2 b b' W0 w' := by
 have hpos : 0 < N := by rw [hN]; exact Nat.two_pow_pos p
 have h128 : N ≤ 128 := by rw [hN]; exact Nat.le_trans (Nat.pow_le_pow_right (by decide) hp7) (by decide)
 have b2 := tab_ne T KX (by omega)
 have b2' := tab_ne T KY (by omega)
 have lp : logI N = p := by rw [hN]; exact logI_pow (by omega)
 have RI : Ho (∀ w, Bel W0 w → Calls Tryz.prog 99 #[.agg #[.slice (some ⟨b, 0, none⟩) N c, .slice (some ⟨b', 0, none⟩) N c']] w (fun e w' => e = .returned (.bool true) ∧ Bel w w')) := ⟨fun w g => by
  have h := dRightV (n := N) (m := N) (c := c) (c' := c') (A := some ⟨b, 0, none⟩) (B := some ⟨b', 0, none⟩) w (T.bel g) (by omega) (by omega)
  rw [lp, show decide (N = N ∧ (0 : Int) ≤ (p : Int)) = true from by simp] at h; exact h⟩
 have LG : Ho (∀ w, Bel W0 w → Calls Tryz.prog 100 #[.int .i64 (N : Int)] w fun e w' => e = .returned (.int .i64 (p : Int)) ∧ w = w') := ⟨fun w g => by
  have h := dLog (n := N) (fn := 100) rfl w (by omega) (T.bel g)
  rw [lp] at h; exact h⟩
 have BI : Ho (∀ w, Calls Tryz.prog 101 #[.int .i64 (p : Int)] w fun e w' => ∃ b, e = .returned (.slice (some ⟨b, 0, none⟩) N N) ∧ Blk w' b 3 (insN (bitsG p)) ∧ w.heap.size ≤ b ∧ Bel w w') := ⟨fun w => by
  have h := dBits (p := p) w rfl hp7
  rw [← hN] at h; exact h⟩
 have TT := Ho.mk T
 have K1 := Ho.mk KX
 have K2 := Ho.mk KY
 have HX := Ho.mk hX
 have HY := Ho.mk hY
 have lb := KX.lt
 have lb' := KY.lt
 have IV := Ho.mk (inv_bits hp7)
 have KV := Ho.mk (Blk.new W0 [.slice (some ⟨b, 0, none⟩) N c, .slice (some ⟨b', 0, none⟩) N c'] 24)
 have g0 := Ho.mk ((Bel.refl W0).alloc (.cells #[.slice (some ⟨b, 0, none⟩) N c, .slice (some ⟨b', 0, none⟩) N c'] 24))
 have HN := Ho.mk hN
 rw [← hN] at IV
 clear KX KY T hX hY lp hN
 go_enter Tryz.func55, Tryz.ntmps55
 go_upto_region 1 with fail
 have hs := Ho.mk (show (W0.alloc (.cells #[.slice (some ⟨b, 0, none⟩) N c, .slice (some ⟨b', 0, none⟩) N c'] 24)).heap.size = W0.heap.size + 1 from World.size_alloc _ _)
 generalize W0.alloc (.cells #[.slice (some ⟨b, 0, none⟩) N c, .slice (some ⟨b', 0, none⟩) N c'] 24) = W at *
 have y0 := KV.out.cell (i := 0) rfl
 have y1 := KV.out.cell (i := 1) rfl
 go_wp2_with fail
 (with_reducible refine (RI.out _ g0.out).mono ?_); rintro e w1 ⟨rfl, b1⟩
 have KV := Ho.mk (KV.out.bel b1)
 have g1 := Ho.mk (g0.out.trans b1)
 have l1 : W0.heap.size < w1.heap.size := by have := b1.size; have := hs.out; omega
 clear y0 y1 b1 hs g0 RI
 have y0 := KV.out.cell (i := 0) rfl
 have y1 := KV.out.cell (i := 1) rfl
 go_wp2_with fail
 (with_reducible refine (LG.out _ g1.out).mono ?_); rintro e w1 ⟨rfl, rfl⟩
 go_upto_region 4 with fail
 have KP := Ho.mk (Blk.new w1 [.int .i64 (p : Int)] 3)
 have KV := Ho.mk (KV.out.old (.cells #[.int .i64 (p : Int)] 3))
 have g2 := Ho.mk (g1.out.alloc (.cells #[.int .i64 (p : Int)] 3))
 have l2 : w1.heap.size < (w1.alloc (.cells #[.int .i64 (p : Int)] 3)).heap.size := by rw [World.size_alloc]; exact Nat.lt_succ_self _
 clear y0 y1 g1 LG
 obtain ⟨bp, hbp⟩ : ∃ bp, bp = w1.heap.size := ⟨_, rfl⟩
 rw [← hbp] at KP l2 l1 ⊢
 clear hbp
 generalize w1.alloc (.cells #[.int .i64 (p : Int)] 3) = W2 at *
 have y2 := KP.out.cell (i := 0) rfl
 go_wp2_with fail
 (with_reducible refine (BI.out _).mono ?_); rintro e w3 ⟨bo, rfl, KO, l3, b3⟩
 have KV := Ho.mk (KV.out.bel b3)
 have KP := Ho.mk (KP.out.bel b3)
 have g3 := Ho.mk (g2.out.trans b3)
 have l4 : bp < bo := Nat.lt_of_lt_of_le l2 l3
 have KO := Ho.mk KO
 clear y2 b3 l3 l2 g2 BI
 have y0 := KV.out.cell (i := 0) rfl
 have SW1 := Ho.mk (dSwap (c := c) (co := N) (N := N) w3 (K1.out.bel g3.out) KO.out HX.out IV.out.len IV.out.lt (by omega) (by omega))
 go_wp2_with fail
 (with_reducible refine SW1.out.mono ?_); rintro e w4 ⟨rfl, f4, G4⟩
 have KV := Ho.mk (G4.blk KV.out (by omega))
 have KP := Ho.mk (G4.blk KP.out (by omega))
 have KO := Ho.mk (G4.blk KO.out (by omega))
 have F2 := Ho.mk (gr_fz G4 (K2.out.bel g3.out) (Ne.symm hb))
 have F1 := Ho.mk f4
 have G4 := Ho.mk ((gr2_bel g3.out b b').trans (Gr2.of1 G4))
 clear y0 f4 g3 SW1
 have y1 := KV.out.cell (i := 1) rfl
 have SW2 := Ho.mk (dSwap (c := c') (co := N) (N := N) w4 F2.out KO.out HY.out IV.out.len IV.out.lt (by omega) (by omega))
 go_wp2_with fail
 (with_reducible refine SW2.out.mono ?_); rintro e w5 ⟨rfl, f5, G5⟩
 have KV := Ho.mk (G5.blk KV.out (by omega))
 have KP := Ho.mk (G5.blk KP.out (by omega))
 have F1 := Ho.mk (gr_fz G5 F1.out hb)
 have F2 := Ho.mk f5
 have G5 := Ho.mk (G4.out.trans (Gr2.of2 G5))
 clear y1 f5 G4 SW2 KO
 go_upto_region 7 with fail
 have y2 := KP.out.cell (i := 0) rfl
 have hmi : IntKind.i64.wrap ((IntKind.i64.wrap (2 ^ p)).tdiv 2) = ((N / 2 : Nat) : Int) := by
  have e : ((2 : Int) ^ p) = ((N : Nat) : Int) := by rw [HN.out]; push_cast; rfl
  rw [e, show IntKind.i64.wrap (N : Int) = (N : Int) from by rw [IntKind.wrap_i64]; omega, Int.tdiv_eq_ediv_of_nonneg (by omega), IntKind.wrap_i64]; omega
 have l5 := G5.out.size
 have TB := Ho.mk (fun w (g : Bel w5 w) => dTable (q := p) (m := N / 2) w ((G5.out.tab TT.out b2 b2').bel g) rfl (by omega) hmi (by omega))
 clear hmi
 go_cut [5] from 26 to 30 (fun s5 wy => ∃ (bW bC bS : Nat), s5 = .pointer (some ⟨bW, 0, none⟩) ∧ Ho (Blk wy bW 24 [.slice (some ⟨bC, 0, none⟩) (N / 2) (N / 2), .slice (some ⟨bS, 0, none⟩) (N / 2) (N / 2)]) ∧ Ho (Fk wy bC ((List.range (N / 2)).map fun k => (tabW p k).1)) ∧ Ho (Fk wy bS ((List.range (N / 2)).map fun k => (tabW p k).2)) ∧ Ho (Bel w5 wy) ∧ Ho (W0.heap.size ≤ bW) ∧ Ho (W0.heap.size ≤ bC) ∧ Ho (W0.heap.size ≤ bS))
 case first =>
  refine wp_region_held_drew (S := fun w' => Bel w5 w') (by kernel_rfl) (Bel.refl _).drew (fun hHeld => ?_)
  (try dsimp only at hHeld)
  generalize w5.drew = wd at *
  refine rl (i := 0) (v := ?_) hHeld (fun w hSw => ?_) ?_
  rotate_left
  ·(have z0 := hSw.cell y2; go_simp; try (with_reducible rfl))
  refine rl (i := 1) (v := ?_) hHeld (fun w hSw => ?_) ?_
  rotate_left
  ·(have z0 := hSw.cell y2; go_simp; try (with_reducible rfl))
  refine rt (i := 2) hHeld ?_
  refine rt (i := 3) hHeld ?_
  try simp only [Act.put, List.setIfInBounds_toArray, List.set_cons_zero, List.set_cons_succ]
  refine I6.rc2 (i := 4) (j := 5) (fun K hK => ?_) (fun K hK => ?_)
  ·go_simp
   go_at_call 83
   (with_reducible refine (TB.out _ hHeld).mono ?_); rintro e v1 ⟨bC, bS, rfl, fC, fS, lC, lS, bv1⟩
   have FC := Ho.mk fC
   have FS := Ho.mk fS
   have lt_bC := fC.lt
   have lt_bS := fS.lt
   have lwC := hHeld.size
   clear fC fS
   try go_wp2_with fail
   refine hK.out _ _ (Bel.trans hHeld bv1) (fun hHeld => ?_)
   clear hK K
   clear bv1
   try simp only [Act.put, List.setIfInBounds_toArray, List.set_cons_zero, List.set_cons_succ]
   refine rc (i := 5) (fun K hK => ?_)
   go_simp
   have le_bW := hHeld.size
   refine hK.out _ _ (Bel.alloc hHeld _) (fun hHeld => ?_)
   clear hK K
   have KW := Ho.mk (Blk.new v1 [.slice none 0 0, .slice none 0 0] 24)
   have FC := Ho.mk (FC.out.bel ((Bel.refl v1).alloc (.cells #[.slice none 0 0, .slice none 0 0] 24)))
   have FS := Ho.mk (FS.out.bel ((Bel.refl v1).alloc (.cells #[.slice none 0 0, .slice none 0 0] 24)))
   have lt_bC := Nat.lt_of_lt_of_le lt_bC ((Bel.refl v1).alloc (.cells #[.slice none 0 0, .slice none 0 0] 24)).size
   have lt_bS := Nat.lt_of_lt_of_le lt_bS ((Bel.refl v1).alloc (.cells #[.slice none 0 0, .slice none 0 0] 24)).size
   have lt_bW : v1.heap.size < (World.alloc v1 (.cells #[.slice none 0 0, .slice none 0 0] 24)).heap.size := by rw [World.size_alloc]; exact Nat.lt_succ_self _
   obtain ⟨bW, hp_bW⟩ : ∃ p, p = v1.heap.size := ⟨_, rfl⟩
   rw [← hp_bW] at KW le_bW lt_bW
   rw [← hp_bW]
   have ne_bC_bW : bC ≠ bW := by omega
   have en_bC_bW : bW ≠ bC := by omega
   have ne_bS_bW : bS ≠ bW := by omega
   have en_bS_bW : bW ≠ bS := by omega
   clear hp_bW
   generalize World.alloc v1 (.cells #[.slice none 0 0, .slice none 0 0] 24) = v2 at *
   try simp only [Act.put, List.setIfInBounds_toArray, List.set_cons_zero, List.set_cons_succ]
   have y0 := KW.out.cell (i := 0) rfl
   have y1 := KW.out.cell (i := 1) rfl
   have x0 := KW.out.free 0
   have x1 := KW.out.free 1
   refine rc (i := 6) (fun K hK => ?_)
   go_simp
   have FC := Ho.mk ((FC.out.far (p := ⟨bW, 0, none⟩) (by dsimp only; omega) (.slice (some ⟨bC, 0, none⟩) (N / 2) (N / 2))).far (p := ⟨bW, 1, none⟩) (by dsimp only; omega) (.slice (some ⟨bS, 0, none⟩) (N / 2) (N / 2)))
   have FS := Ho.mk ((FS.out.far (p := ⟨bW, 0, none⟩) (by dsimp only; omega) (.slice (some ⟨bC, 0, none⟩) (N / 2) (N / 2))).far (p := ⟨bW, 1, none⟩) (by dsimp only; omega) (.slice (some ⟨bS, 0, none⟩) (N / 2) (N / 2)))
   have KW := Ho.mk ((KW.out.set 0 (.slice (some ⟨bC, 0, none⟩) (N / 2) (N / 2))).set 1 (.slice (some ⟨bS, 0, none⟩) (N / 2) (N / 2)))
   simp only [List.set_cons_zero, List.set_cons_succ] at KW
   refine hK.out _ _ ⟨((hHeld.out.setCell (p := ⟨bW, 0, none⟩) (by dsimp only; omega) (.slice (some ⟨bC, 0, none⟩) (N / 2) (N / 2))).setCell (p := ⟨bW, 1, none⟩) (by dsimp only; omega) (.slice (some ⟨bS, 0, none⟩) (N / 2) (N / 2)))⟩ (fun hHeld => ?_)
   clear hK K y0 x0 y1 x1
   generalize World.setCell (World.setCell v2 ⟨bW, 0, none⟩ (.slice (some ⟨bC, 0, none⟩) (N / 2) (N / 2))) ⟨bW, 1, none⟩ (.slice (some ⟨bS, 0, none⟩) (N / 2) (N / 2)) = v3 at *
   try simp only [Act.put, List.setIfInBounds_toArray, List.set_cons_zero, List.set_cons_succ]
   refine wpAnyH_done (by kernel_rfl) ?_ _
   go_wp2_with fail
   go_meet
   exact ⟨bW, bC, bS, rfl, KW, FC, FS, ⟨hHeld⟩, ⟨by omega⟩, ⟨by omega⟩, ⟨by omega⟩⟩
  ·go_simp
   have le_bW := hHeld.size
   refine hK.out _ _ (Bel.alloc hHeld _) (fun hHeld => ?_)
   clear hK K
   have KW := Ho.mk (Blk.new wd [.slice none 0 0, .slice none 0 0] 24)
   have lt_bW : wd.heap.size < (World.alloc wd (.cells #[.slice none 0 0, .slice none 0 0] 24)).heap.size := by rw [World.size_alloc]; exact Nat.lt_succ_self _
   obtain ⟨bW, hp_bW⟩ : ∃ p, p = wd.heap.size := ⟨_, rfl⟩
   rw [← hp_bW] at KW le_bW lt_bW
   rw [← hp_bW]
   clear hp_bW
   generalize World.alloc wd (.cells #[.slice none 0 0, .slice none 0 0] 24) = v4 at *
   try simp only [Act.put, List.setIfInBounds_toArray, List.set_cons_zero, List.set_cons_succ]
   refine rc (i := 4) (fun K hK => ?_)
   go_simp
   go_at_call 83
   (with_reducible refine (TB.out _ hHeld).mono ?_); rintro e v5 ⟨bC, bS, rfl, fC, fS, lC, lS, bv5⟩
   have FC := Ho.mk fC
   have FS := Ho.mk fS
   have lt_bC := fC.lt
   have lt_bS := fS.lt
   have lwC := hHeld.size
   clear fC fS
   try go_wp2_with fail
   refine hK.out _ _ (Bel.trans hHeld bv5) (fun hHeld => ?_)
   clear hK K
   have KW := Ho.mk (KW.out.bel bv5)
   have lt_bW := Nat.lt_of_lt_of_le lt_bW bv5.size
   clear bv5
   try simp only [Act.put, List.setIfInBounds_toArray, List.set_cons_zero, List.set_cons_succ]
   have y0 := KW.out.cell (i := 0) rfl
   have y1 := KW.out.cell (i := 1) rfl
   have x0 := KW.out.free 0
   have x1 := KW.out.free 1
   refine rc (i := 6) (fun K hK => ?_)
   go_simp
   have FC := Ho.mk ((FC.out.far (p := ⟨bW, 0, none⟩) (by dsimp only; omega) (.slice (some ⟨bC, 0, none⟩) (N / 2) (N / 2))).far (p := ⟨bW, 1, none⟩) (by dsimp only; omega) (.slice (some ⟨bS, 0, none⟩) (N / 2) (N / 2)))
   have FS := Ho.mk ((FS.out.far (p := ⟨bW, 0, none⟩) (by dsimp only; omega) (.slice (some ⟨bC, 0, none⟩) (N / 2) (N / 2))).far (p := ⟨bW, 1, none⟩) (by dsimp only; omega) (.slice (some ⟨bS, 0, none⟩) (N / 2) (N / 2)))
   have KW := Ho.mk ((KW.out.set 0 (.slice (some ⟨bC, 0, none⟩) (N / 2) (N / 2))).set 1 (.slice (some ⟨bS, 0, none⟩) (N / 2) (N / 2)))
   simp only [List.set_cons_zero, List.set_cons_succ] at KW
   refine hK.out _ _ ⟨((hHeld.out.setCell (p := ⟨bW, 0, none⟩) (by dsimp only; omega) (.slice (some ⟨bC, 0, none⟩) (N / 2) (N / 2))).setCell (p := ⟨bW, 1, none⟩) (by dsimp only; omega) (.slice (some ⟨bS, 0, none⟩) (N / 2) (N / 2)))⟩ (fun hHeld => ?_)
   clear hK K y0 x0 y1 x1
   generalize World.setCell (World.setCell v5 ⟨bW, 0, none⟩ (.slice (some ⟨bC, 0, none⟩) (N / 2) (N / 2))) ⟨bW, 1, none⟩ (.slice (some ⟨bS, 0, none⟩) (N / 2) (N / 2)) = v6 at *
   try simp only [Act.put, List.setIfInBounds_toArray, List.set_cons_zero, List.set_cons_succ]
   refine wpAnyH_done (by kernel_rfl) ?_ _
   go_wp2_with fail
   go_meet
   exact ⟨bW, bC, bS, rfl, KW, FC, FS, ⟨hHeld⟩, ⟨by omega⟩, ⟨by omega⟩, ⟨by omega⟩⟩
 case rest =>
  obtain ⟨bW, bC, bS, rfl, KW, FC, FS, HB, LW, LC, LS⟩ := hcut
  have KV := Ho.mk (KV.out.bel HB.out)
  have KP := Ho.mk (KP.out.bel HB.out)
  have F1 := Ho.mk (F1.out.bel HB.out)
  have F2 := Ho.mk (F2.out.bel HB.out)
  have G6 := Ho.mk (G5.out.tb HB.out)
  clear y2 TB HB G5
  obtain ⟨wo, rfl⟩ : ∃ wo : World, wo = wc := ⟨_, rfl⟩
  have FCl := FC.out.lt
  have FSl := FS.out.lt
  have KWl := KW.out.lt
  have KPl := KP.out.lt
  have KVl := KV.out.lt
  have lwo := G6.out.size
  have LL := Ho.mk (And.intro LW.out (And.intro LC.out (And.intro LS.out (And.intro FCl (And.intro FSl (And.intro KWl (And.intro KPl (And.intro KVl lwo))))))))
  have LB := Ho.mk (And.intro l1 (And.intro lb lb'))
  clear LW LC LS FCl FSl KWl KPl KVl lwo l1 lb lb' l4 l5
  go_wp2_with fail
  go_loopw [6] (fun v wr => ∃ (q bq : Nat) (z : Int), q ≤ p ∧ v = .pointer (some ⟨bq, 0, none⟩) ∧ Ho (z = q + 1) ∧ Ho (wo.heap.size ≤ bq) ∧ Ho (Blk wr bq 3 [.int .i64 z]) ∧ Ho (Fz wr b (stageS p (tabW p) (swapG opsN (bitsG p) X, swapG opsN (bitsG p) Y) q).1) ∧ Ho (Fz wr b' (stageS p (tabW p) (swapG opsN (bitsG p) X, swapG opsN (bitsG p) Y) q).2) ∧ Ho (Gr2 b b' wo wr)) (fun v w => p + 2 - qOf v w)
  case atStart =>
   have a1 := (Bel.refl wo).alloc (.cells #[.int .i64 1] 3)
   exact ⟨0, wo.heap.size, 1, Nat.zero_le _, rfl, ⟨by simp⟩, ⟨Nat.le_refl _⟩, ⟨Blk.new wo [.int .i64 1] 3⟩, ⟨F1.out.bel a1⟩, ⟨F2.out.bel a1⟩, ⟨gr2_bel a1 b b'⟩⟩
  case round =>
   obtain ⟨wq, rfl⟩ : ∃ wq : World, wq = wr := ⟨_, rfl⟩
   obtain ⟨q, bq, z, hq, rfl, HZ, HQ, KQ, FX, FY, HG⟩ := hrel
   have KP1 := Ho.mk (HG.out.blk KP.out (by have := LB.out; omega) (by have := LB.out; omega))
   have y2 := KP1.out.cell (i := 0) rfl
   have y3 := KQ.out.cell (i := 0) rfl
   rcases Nat.lt_or_ge q p with hlt | hge
   ·have hzp : z ≤ (p : Int) := by have := HZ.out; omega
    have hz1 : 1 ≤ z := by have := HZ.out; omega
    have KV1 := Ho.mk (HG.out.blk KV.out (by have := LB.out; omega) (by have := LB.out; omega))
    obtain ⟨st, hst⟩ : ∃ st, st = stageS p (tabW p) (swapG opsN (bitsG p) X, swapG opsN (bitsG p) Y) q := ⟨_, rfl⟩
    have HST := Ho.mk hst
    rw [← hst] at FX FY
    have hl := stageS_len (p := p) (tabW p) (st := (swapG opsN (bitsG p) X, swapG opsN (bitsG p) Y)) (by rw [swapG_len, HX.out, HN.out]) (by rw [swapG_len, HY.out, HN.out]) (k := q) (by omega)
    rw [← hst, ← HN.out] at hl
    have HSL := Ho.mk hl
    clear hst hl
    obtain ⟨half, hhalf⟩ : ∃ half, half = 2 ^ q := ⟨_, rfl⟩
    obtain ⟨many, hmany⟩ : ∃ many, many = 2 ^ (p - (q + 1)) := ⟨_, rfl⟩
    have hmN : many * (2 * half) = N := by rw [hmany, hhalf, HN.out]; exact pow_split hlt
    have hh0 : 0 < half := by rw [hhalf]; exact Nat.two_pow_pos q
    have HH := Ho.mk (And.intro hhalf hmany)
    have HMN := Ho.mk hmN
    clear hhalf hmany hmN
    have h2z : (2 : Int) ^ z.toNat = ((2 * half : Nat) : Int) := by
     rw [HH.out.1, show z.toNat = q + 1 by have := HZ.out; omega, Int.pow_succ]; push_cast; omega
    have hhN : 2 * half ≤ N := by
     have h1 : 0 < many := by rw [HH.out.2]; exact Nat.two_pow_pos _
     have := HMN.out
     have h2 : 1 * (2 * half) ≤ many * (2 * half) := Nat.mul_le_mul_right _ h1
     omega
    obtain ⟨H2, hH2⟩ : ∃ H2 : Nat, H2 = 2 * half := ⟨_, rfl⟩
    rw [← hH2] at h2z
    have HH2 := Ho.mk hH2
    clear hH2
    have hw1 : IntKind.i64.wrap ((2 : Int) ^ z.toNat) = (H2 : Int) := by rw [h2z, IntKind.wrap_i64]; have := HH2.out; omega
    have hw2 : wrap64 ((2 : Int) ^ z.toNat) = (H2 : Int) := by rw [h2z]; unfold wrap64; have := HH2.out; omega
    clear h2z
    go_wp2_with fail
    go_loopw [8] (fun v wr => ∃ (j F : Nat), j ≤ many ∧ v = .int .i64 (F : Int) ∧ Ho (F = j * (2 * half)) ∧ Ho (Fz wr b (mergesS half (fun k => tabW p (k * 2 ^ (p - (q + 1)))) st j).1) ∧ Ho (Fz wr b' (mergesS half (fun k => tabW p (k * 2 ^ (p - (q + 1)))) st j).2) ∧ Ho (Gr2 b b' wq wr)) (fun v _ => N - (intOf v).toNat)
    case atStart => exact ⟨0, 0, Nat.zero_le _, rfl, ⟨by simp⟩, FX, FY, ⟨Gr2.refl _ _ _⟩⟩
    case round =>
     obtain ⟨j, F, hj, rfl, HF, GX, GY, H1⟩ := hrel
     have lB := LB.out
     have lq := HQ.out
     have lLL := LL.out
     have KV2 := Ho.mk (H1.out.blk KV1.out (by omega) (by omega))
     have KQ2 := Ho.mk (H1.out.blk KQ.out (by omega) (by omega))
     have KP2 := Ho.mk (H1.out.blk KP1.out (by omega) (by omega))
     have v0 := KV2.out.cell (i := 0) rfl
     have v1 := KV2.out.cell (i := 1) rfl
     have q0 := KQ2.out.cell (i := 0) rfl
     have ML := Ho.mk (mergesS_len (half := half) (tw := fun k => tabW p (k * 2 ^ (p - (q + 1)))) (st := st) j)
     rcases Nat.lt_or_ge j many with jlt | jge
     ·have hFN : F + H2 ≤ N := by
       have h1 : (j + 1) * (2 * half) ≤ many * (2 * half) := Nat.mul_le_mul_right _ jlt
       have := HMN.out
       have := HF.out
       have := HH2.out
       rw [Nat.succ_mul] at h1; omega
      have hH20 : 0 < H2 := by have := HH2.out; omega
      obtain ⟨E, hE⟩ : ∃ E : Nat, E = F + H2 := ⟨_, rfl⟩
      have hEN : E ≤ N := by omega
      have hFE : F < E := by omega
      have hwE : IntKind.i64.wrap ((F : Int) + (H2 : Int)) = (E : Int) := by rw [hE, IntKind.wrap_i64]; omega
      have HE := Ho.mk hE
      have PT := Ho.mk (fun w => dPart (b := b) (b' := b') (o := 0) (n := N) (m := N) (f := F) (t := E) (c := c) (c' := c') w hFE (by omega) (by omega) hc hc' hC hC')
      have MG := Ho.mk (fun w (g : Bel wr w) => dMerge (half := half) (f := F) (c := c - F) (c' := c' - F) (b := b) (b' := b') (bw := bW) (bp := bp) (bq := bq) (N := N) (tw := fun k => tabW p (k * 2 ^ (p - (q + 1)))) w (GX.out.bel g) (GY.out.bel g) hb (by rw [ML.out.1]; exact HSL.out.1) (by rw [ML.out.2]; exact HSL.out.2)
       (by have := HH2.out; omega) hh0 (by omega) (by have := HH2.out; omega) (by have := HH2.out; omega) (by omega) (by omega)
       (fun k k0 kh w' gw => by
        have gg : Gr2 b b' wq w' := (H1.out.tb g).trans gw
        have gh : Gr2 b b' wo w' := HG.out.trans gg
        have hi : k * 2 ^ (p - (q + 1)) < N / 2 := by
         have h1 : k * 2 ^ (p - (q + 1)) < half * 2 ^ (p - (q + 1)) := Nat.mul_lt_mul_of_pos_right kh (Nat.two_pow_pos _)
         have h2 : many * (2 * half) = 2 * (half * 2 ^ (p - (q + 1))) := by rw [HH.out.2, Nat.mul_comm (2 ^ (p - (q + 1))), Nat.mul_assoc]
         have := HMN.out
         omega
        have hz : ((q + 1 : Nat) : Int) = z := by have := HZ.out; omega
        have h := dAt (k := k) (p := p) (q := q + 1) (m := N / 2) (bw := bW) (bp := bp) (bq := bq) w' (gh.blk KW.out (by omega) (by omega)) (gh.blk KP.out (by omega) (by omega)) (by rw [hz]; exact gg.blk KQ.out (by omega) (by omega))
         (gh.fk FC.out (by omega) (by omega)) (gh.fk FS.out (by omega) (by omega)) (by omega) hlt (by have := HH2.out; omega) hi (by simp) (by simp) (by omega)
        rw [nth_range _ hi, nth_range _ hi] at h
        exact h))
      have h2h : 2 * half = E - F := by have := HH2.out; omega
      rw [h2h] at MG
      simp only [Nat.zero_add] at PT
      clear hE h2h lB lq lLL
      go_upto_region 15 with fail
      refine wp_region_held_drew (S := fun w' => Blk w' W0.heap.size 24 [.slice (some ⟨b, 0, none⟩) N c, .slice (some ⟨b', 0, none⟩) N c'] ∧ Blk w' bq 3 [.int .i64 z]) (by kernel_rfl) ⟨KV2.out.bel (Bel.refl _).drew, KQ2.out.bel (Bel.refl _).drew⟩ (fun hHeld => ?_)
      (try dsimp only at hHeld)
      refine rl (i := 0) (v := ?_) hHeld (fun w hSw => ?_) ?_
      rotate_left
      ·(have z0 := hSw.1.cell (i := 0) rfl; have z1 := hSw.1.cell (i := 1) rfl; have z2 := hSw.2.cell (i := 0) rfl; go_simp; try (with_reducible rfl))
      refine rt (i := 1) hHeld ?_
      refine rt (i := 2) hHeld ?_
      refine rl (i := 3) (v := ?_) hHeld (fun w hSw => ?_) ?_
      rotate_left
      ·(have z0 := hSw.1.cell (i := 0) rfl; have z1 := hSw.1.cell (i := 1) rfl; have z2 := hSw.2.cell (i := 0) rfl; go_simp; try (with_reducible rfl))
      refine rt (i := 4) hHeld ?_
      refine rt (i := 5) hHeld ?_
      refine rt (i := 7) hHeld ?_
      try simp only [Act.put, List.setIfInBounds_toArray, List.set_cons_zero, List.set_cons_succ]
      refine rc (i := 6) (fun K hK => ?_)
      go_simp
      go_at_call 105
      (with_reducible refine (PT.out _).mono ?_); rintro e w8 ⟨rfl, b8⟩
      try go_wp2_with fail
      refine hK.out _ _ ⟨hHeld.1.bel b8, hHeld.2.bel b8⟩ (fun hHeld => ?_)
      clear hK K
      try simp only [Act.put, List.setIfInBounds_toArray, List.set_cons_zero, List.set_cons_succ]
      refine rc (i := 8) (fun K hK => ?_)
      go_simp
      go_at_call 104
      (with_reducible refine (MG.out _ ((Bel.refl _).drew.trans b8)).mono ?_); rintro e w9 ⟨rfl, x9, y9, g9⟩
      try go_wp2_with fail
      have GX9 := Ho.mk x9
      have GY9 := Ho.mk y9
      have gG := (gr2_bel ((Bel.refl wr).drew.trans b8) b b').trans g9
      clear x9 y9
      refine hK.out _ _ ⟨g9.blk hHeld.1 (by have := LB.out; omega) (by have := LB.out; omega), g9.blk hHeld.2 (by have := LB.out; have := HQ.out; have := LL.out; omega) (by have := LB.out; have := HQ.out; have := LL.out; omega)⟩ (fun hHeld => ?_)
      clear hK K
      try simp only [Act.put, List.setIfInBounds_toArray, List.set_cons_zero, List.set_cons_succ]
      refine wpAnyH_done (by kernel_rfl) ?_ _
      clear hHeld
      have q0 := (gG.blk KQ2.out (by have := LB.out; have := HQ.out; have := LL.out; omega) (by have := LB.out; have := HQ.out; have := LL.out; omega)).cell (i := 0) rfl
      have GG := Ho.mk ((gr2_bel ((Bel.refl wr).drew.trans b8) b b').trans g9)
      clear g9 b8
      go_wp2
      go_roundw
      case rel =>
       refine ⟨j + 1, F + H2, by omega, by rw [HE.out], ⟨?_⟩, ⟨?_⟩, ⟨?_⟩, ⟨H1.out.trans GG.out⟩⟩
       ·have := HF.out; have := HH2.out; rw [Nat.succ_mul]; omega
       ·rw [mergesS_succ, ← HF.out]; exact GX9.out
       ·rw [mergesS_succ, ← HF.out]; exact GY9.out
      case measure => simp [intOf]; omega
     ·obtain rfl : j = many := by omega
      have e9 : stageS p (tabW p) (swapG opsN (bitsG p) X, swapG opsN (bitsG p) Y) (q + 1) = mergesS half (fun k => tabW p (k * 2 ^ (p - (q + 1)))) st j := by
       rw [stageS_succ, ← HST.out, ← HH.out.1, ← HH.out.2]; rfl
      have HE9 := Ho.mk e9
      have hFN : ¬ F < N := by have := HF.out; have := HMN.out; omega
      have GZ := Ho.mk (HG.out.trans H1.out)
      have lz := GZ.out.size
      clear e9 KV1 KP1
      go_wp2_with fail
      go_roundw
      case rel =>
       have aa := (Bel.refl wr).alloc (.cells #[.int .i64 (z + 1)] 3)
       exact ⟨q + 1, wr.heap.size, z + 1, by omega, rfl, ⟨by have := HZ.out; omega⟩, ⟨lz⟩, ⟨Blk.new wr [.int .i64 (z + 1)] 3⟩, ⟨by rw [HE9.out]; exact GX.out.bel aa⟩, ⟨by rw [HE9.out]; exact GY.out.bel aa⟩, ⟨GZ.out.tb aa⟩⟩
      case measure =>
       rw [qOf_blk (Blk.new wr [.int .i64 (z + 1)] 3), qOf_blk KQ.out]
       have := HZ.out
       omega
   ·obtain rfl : q = p := by omega
    have hzp : (q : Int) < z := by have := HZ.out; omega
    go_wp2
    go_ret
    exact ⟨rfl, FX.out, FY.out, G6.out.trans HG.out⟩
end P8
namespace W5
open Ieee Go Go.RowKit Go.Proofs Go.Proofs.YtnbdoidccacdnaaGreatDoor Ow Dt Gp W0 S4 M0 M1 M3 W4
attribute [local go_sem ↓] Go.wp_at_zero Go.wp_at_succ
structure RowF (w : World) (B : Nat) (v : Value) (X : List Nat) : Prop where
 out : ∃ A c, v = .slice A X.length c ∧ X.length ≤ c ∧ c ≤ 9223372036854775807 ∧ (X.length = 0 ∨ ∃ b, A = some ⟨b, 0, none⟩ ∧ Fz w b X ∧ B ≤ b)
theorem RowF.bel {w w' : World} {B : Nat} {v : Value} {X : List Nat} (h : RowF w B v X) (g : Bel w w') : RowF w' B v X := by
 obtain ⟨A, c, h1, h2, h3, h4⟩ := h.out
 exact ⟨A, c, h1, h2, h3, h4.imp id fun ⟨b, e, f, l⟩ => ⟨b, e, f.bel g, l⟩⟩
theorem RowF.mono {w : World} {B B' : Nat} {v : Value} {X : List Nat} (h : RowF w B v X) (g : B' ≤ B) : RowF w B' v X := by
 obtain ⟨A, c, h1, h2, h3, h4⟩ := h.out
 exact ⟨A, c, h1, h2, h3, h4.imp id fun ⟨b, e, f, l⟩ => ⟨b, e, f, Nat.le_trans g l⟩⟩
theorem RowF.at_ {w : World} {B : Nat} {v : Value} {X : List Nat} (h : RowF w B v X) (hp : 0 < X.length) : ∃ b c, v = .slice (some ⟨b, 0, none⟩) X.length c ∧ X.length ≤ c ∧ c ≤ 9223372036854775807 ∧ Fz w b X ∧ B ≤ b := by
 obtain ⟨A, c, h1, h2, h3, h4⟩ := h.out
 rcases h4 with h4 | ⟨b, rfl, f, l⟩
 ·omega
 ·exact ⟨b, c, h1, h2, h3, f, l⟩
theorem RowF.nil (w : World) (B : Nat) (A : Option Addr) (c : Nat) (hc : c ≤ 9223372036854775807) : RowF w B (.slice A 0 c) [] := ⟨A, c, rfl, Nat.zero_le _, hc, .inl rfl⟩
theorem RowF.of {w : World} {B b c : Nat} {X : List Nat} (h : Fz w b X) (hB : B ≤ b) (hc : X.length ≤ c) (hc2 : c ≤ 9223372036854775807) : RowF w B (.slice (some ⟨b, 0, none⟩) X.length c) X := ⟨_, c, rfl, hc, hc2, .inr ⟨b, rfl, h, hB⟩⟩
theorem RowF.far {w : World} {B : Nat} {u : Value} {X : List Nat} (h : RowF w B u X) {p : Addr} (hp : p.block < B) (v : Value) : RowF (w.setCell p v) B u X := by
 obtain ⟨A, c, h1, h2, h3, h4⟩ := h.out
 exact ⟨A, c, h1, h2, h3, h4.imp id fun ⟨b, e, f, l⟩ => ⟨b, e, f.far (by omega) v, l⟩⟩
structure Two (w : World) (B : Nat) (u0 u1 : Value) (X Y : List Nat) : Prop where
 one : RowF w B u0 X
 two : RowF w B u1 Y
 ne : ∀ b b' o o' n n' c c', u0 = .slice (some ⟨b, o, none⟩) n c → u1 = .slice (some ⟨b', o', none⟩) n' c' → 0 < X.length → 0 < Y.length → b ≠ b'
theorem two_of {w w' : World} {B B' : Nat} {u0 u1 : Value} {X Y : List Nat} (h : RowF w B u0 X) (hs : w.heap.size ≤ B') (h' : RowF w' B u0 X) (k : RowF w' B' u1 Y) (hB : B ≤ B') : Two w' B u0 u1 X Y :=
 ⟨h', k.mono hB, fun b b' o o' n n' c c' e e' hx hy => by
  obtain ⟨b1, c1, e1, _, _, f, _⟩ := h.at_ hx
  obtain ⟨b2, c2, e2, _, _, _, l2⟩ := k.at_ hy
  rw [e1] at e; rw [e2] at e'
  cases e; cases e'
  have := f.lt; omega⟩
theorem Two.bel {w w' : World} {B : Nat} {u0 u1 : Value} {X Y : List Nat} (h : Two w B u0 u1 X Y) (g : Bel w w') : Two w' B u0 u1 X Y := ⟨h.one.bel g, h.two.bel g, h.ne⟩
theorem Two.mono {w : World} {B B' : Nat} {u0 u1 : Value} {X Y : List Nat} (h : Two w B u0 u1 X Y) (g : B' ≤ B) : Two w B' u0 u1 X Y := ⟨h.one.mono g, h.two.mono g, h.ne⟩
theorem Two.far {w : World} {B : Nat} {u0 u1 : Value} {X Y : List Nat} (h : Two w B u0 u1 X Y) {p : Addr} (hp : p.block < B) (v : Value) : Two (w.setCell p v) B u0 u1 X Y := ⟨h.one.far hp v, h.two.far hp v, h.ne⟩
theorem RowF.fr {w : World} {B : Nat} {v : Value} {X : List Nat} (h : RowF w B v X) (hm : X.length ≤ 35184372088831) : ∃ A c, v = .slice A X.length c ∧ X.length ≤ c ∧ Fr w A X := by
 obtain ⟨A, c, h1, h2, h3, h4⟩ := h.out
 refine ⟨A, c, h1, h2, ?_⟩
 rcases h4 with h4 | ⟨b, rfl, f, l⟩
 ·obtain rfl := List.length_eq_zero_iff.1 h4; exact Fr.nil _ _
 ·exact f.fr hm
theorem Fr.news {w : World} {ad : Addr} {X : List Nat} (h : Fr w (some ad) X) : ∃ cs : List Value, cs.length = X.length ∧ (∀ j u, cs[j]? = some u → w.cell? (ad.add j) = some u) ∧ (∀ j u, cs[j]? = some u → Fc u (nthN X j)) := by
 have key : ∀ j, j < X.length → ∃ v, w.cell? (ad.add j) = some v ∧ Fc v (nthN X j) := fun j hj => by
  obtain ⟨ad', v, e, hc, k⟩ := h.cell j hj
  cases e; exact ⟨v, hc, k⟩
 have pick : ∀ n, n ≤ X.length → ∃ cs : List Value, cs.length = n ∧ (∀ j u, cs[j]? = some u → w.cell? (ad.add j) = some u) ∧ (∀ j u, cs[j]? = some u → Fc u (nthN X j)) := by
  intro n
  induction n with
  | zero => exact fun _ => ⟨[], rfl, fun j u hu => by simp at hu, fun j u hu => by simp at hu⟩
  | succ n ih =>
   intro hn
   obtain ⟨cs, h1, h2, h3⟩ := ih (by omega)
   obtain ⟨v, hv, hf⟩ := key n (by omega)
   have app : ∀ j u, (cs ++ [v])[j]? = some u → (cs[j]? = some u) ∨ (j = n ∧ u = v) := fun j u hu => by
    rw [List.getElem?_append] at hu
    split at hu
    ·exact .inl hu
    ·rename_i hge
     rcases hz : j - cs.length with _ | k
     ·rw [hz] at hu; simp at hu; exact .inr ⟨by omega, hu.symm⟩
     ·rw [hz] at hu; simp at hu
   refine ⟨cs ++ [v], by simp [h1], fun j u hu => ?_, fun j u hu => ?_⟩
   ·rcases app j u hu with q | ⟨rfl, rfl⟩
    ·exact h2 j u q
    ·exact hv
   ·rcases app j u hu with q | ⟨rfl, rfl⟩
    ·exact h3 j u q
    ·exact hf
 exact pick X.length (Nat.le_refl _)
theorem fc_one {cs : List Value} {X : List Nat} (h : ∀ j u, cs[j]? = some u → Fc u (nthN X j)) : ∀ u ∈ cs, u.oneCell' = true := fun u hu => by
 obtain ⟨j, hj, rfl⟩ := List.getElem_of_mem hu
 obtain ⟨b, e, _⟩ := h j _ (List.getElem?_eq_getElem hj)
 rw [e]; rfl
theorem own_rowF {w : World} {B n : Nat} {v : Value} {cs : List Value} {X : List Nat} (h : Ow.OwnI w B 50 1 v n cs) (hn : X.length = n) (hc : ∀ j u, cs[j]? = some u → Fc u (nthN X j)) : RowF w B v X := by
 subst hn
 have hl := h.out.1
 rcases h.out.2 with ⟨rfl, h0⟩ | ⟨g, cap, cur, rfl, hg, hb, h1, h2, h3, h4⟩
 ·exact ⟨none, 0, by rw [h0], by omega, by decide, .inl h0⟩
 ·refine ⟨_, cap, rfl, h1, h2, .inr ⟨g, rfl, ⟨cur.toList, ⟨by simpa using hb⟩, fun j hj => ?_⟩, hg⟩⟩
  have hjl : j < cs.length := by omega
  refine ⟨cs[j], ?_, hc j _ (List.getElem?_eq_getElem hjl)⟩
  have : (cur.toList.take (X.length * 1))[j]? = some cs[j] := by rw [h4]; exact List.getElem?_eq_getElem hjl
  rw [List.getElem?_take] at this
  split at this
  ·exact this
  ·cases this
theorem dClone {A : Option Addr} {n c : Nat} {X : List Nat} (w : World) (h : Fr w A X) (hA : A = none → n = 0) (hl : X.length ≤ 100000) (hn : X.length = n) :
  Calls Tryz.prog 96 #[.slice A n c] w fun e w' => ∃ v, e = .returned v ∧ RowF w' w.heap.size v X ∧ Bel w w' := by
 cases A with
 | none =>
  have h0 := hA rfl
  subst h0
  obtain rfl := List.length_eq_zero_iff.1 hn
  have hnil := fun w => Lib.run_eql_slice_nil (P := Tryz.prog) w 22 50 none 0 c 0 0 Tryz.underlying22
  go_enter Tryz.func96, Tryz.ntmps96
  go_wp2
  go_ret
  exact ⟨_, rfl, RowF.nil _ _ _ _ (by decide), Bel.refl _⟩
 | some ad =>
  subst hn
  have hnil := fun w => Lib.run_eql_slice_nil (P := Tryz.prog) w 22 50 (some ad) X.length c 0 0 Tryz.underlying22
  obtain ⟨cs, k1, k2, k3⟩ := Fr.news h
  have K1 := Ho.mk k1
  have K2 := Ho.mk k2
  have K3 := Ho.mk k3
  clear k1 k2 k3 h
  go_enter Tryz.func96, Tryz.ntmps96
  go_wp2_with (at_builtin; (with_reducible refine wpList_apps _ rfl (.tmp 5) (.tmp 6) 22 rfl w.heap.size 50 (.float .f64 0) 8 Tryz.underlying22 infoF rfl _ 0 [] rfl (Ow.OwnI.lit _ _ (Nat.le_refl _)) ad X.length c cs rfl K1.out (fun j u hu => ((Bel.refl w).alloc _).cell (K2.out j u hu)) (fc_one K3.out) (by omega) (by omega) (by simp) ?_); intro v w1 hv hb)
  go_ret
  have hv' := Ow.OwnI.mk hv.out
  rw [Nat.zero_add, List.nil_append] at hv'
  exact ⟨v, rfl, own_rowF hv' rfl K3.out, ⟨((Below.refl _ w).alloc (Nat.le_refl _) _).trans hb⟩⟩
end W5
namespace Pa
open Ieee Go Go.RowKit Go.Proofs Go.Proofs.YtnbdoidccacdnaaGreatDoor Ow Dt Gp W0 S4 P0 M0 M1 M3 W4 W5 W1 W2
attribute [local go_sem ↓] Go.wp_at_zero Go.wp_at_succ
def upMap (g : Nat → Nat) (X : List Nat) (i : Nat) : List Nat := (X.take i).map g ++ X.drop i
theorem upMap_len (g : Nat → Nat) (X : List Nat) {i : Nat} (h : i ≤ X.length) : (upMap g X i).length = X.length := by simp [upMap]; omega
theorem upMap_all (g : Nat → Nat) (X : List Nat) : upMap g X X.length = X.map g := by simp [upMap]
theorem upMap_zero (g : Nat → Nat) (X : List Nat) : upMap g X 0 = X := by simp [upMap]
theorem upMap_at (g : Nat → Nat) (X : List Nat) {i : Nat} (h : i < X.length) : nthN (upMap g X i) i = nthN X i := by
 simp [upMap, nthN, List.getD_eq_getElem?_getD, List.getElem?_append, Nat.min_eq_left (Nat.le_of_lt h)]
theorem upMap_set (g : Nat → Nat) (X : List Nat) {i : Nat} (h : i < X.length) : (upMap g X i).set i (g (nthN X i)) = upMap g X (i + 1) := by
 apply List.ext_getElem (by simp [upMap]; omega)
 intro j h1 h2
 rw [List.getElem_set]
 have hx : nthN X i = X[i] := nthN_lt h
 by_cases e : i = j
 ·subst e
  simp [upMap, List.getElem_append, hx]; omega
 ·simp only [if_neg e, upMap, List.getElem_append, List.length_map, List.length_take, List.getElem_map, List.getElem_take, List.getElem_drop]
  by_cases q : j < i
  ·rw [dif_pos (by omega), dif_pos (by omega)]
  ·rw [dif_neg (by omega), dif_neg (by omega)]
   congr 1; omega
theorem dOpp {r : Nat} (w : World) (hr : r < 2 * sgnW) : Calls Tryz.prog 54 #[.float .f64 r] w (TellsC w (fng (cn r))) := by
 have HR := Ho.mk hr
 clear hr
 go_enter Tryz.func54, Tryz.ntmps54
 go_wp2
 go_ret
 exact ⟨_, rfl, fng_lt' HR.out, neg_cn HR.out, Bel.refl _⟩
theorem dShare {r s : Nat} (w : World) (hr : r < 2 * sgnW) (hs : s < 2 * sgnW) : Calls Tryz.prog 57 #[.float .f64 s, .float .f64 r] w (TellsC w (fmul (cn r) (cn s))) := by
 have M := Ho.mk (fun w => dOMul w hr hs)
 clear hr hs
 go_enter Tryz.func57, Tryz.ntmps57
 go_wp2_with (go_at_call 108; (with_reducible refine (M.out _).mono ?_); rintro e w1 ⟨r1, rfl, l1, c1, b1⟩)
 go_ret
 exact ⟨r1, rfl, l1, c1, b1⟩
theorem dEachO {b n c : Nat} {X : List Nat} (W0 : World) (KX : Fz W0 b X) (hX : X.length = n) (hm : n ≤ 100000) :
  Calls Tryz.prog 53 #[.slice (some ⟨b, 0, none⟩) n c, .func (.func 54) #[] #[]] W0
   fun e w' => e = .returned (.tuple #[]) ∧ Fz w' b (X.map (fng)) ∧ Gr b W0 w' := by
 subst hX
 have K1 := Ho.mk KX
 have OP := Ho.mk (fun (w : World) (r : Nat) (h : r < 2 * sgnW) => dOpp w h)
 clear KX
 go_enter Tryz.func53, Tryz.ntmps53
 go_wp2_with fail
 go_loopw [8] (fun v wr => ∃ (i : Nat), i ≤ X.length ∧ v = .int .i64 i ∧ Ho (Fz wr b (upMap (fng) X i)) ∧ Ho (Gr b W0 wr)) (fun v _ => X.length - (intOf v).toNat)
 case atStart => exact ⟨0, Nat.zero_le _, rfl, ⟨by rw [upMap_zero]; exact K1.out⟩, ⟨Gr.refl _ _⟩⟩
 case round =>
  obtain ⟨i, hi, rfl, FK, HW⟩ := hrel
  rcases Nat.lt_or_ge i X.length with hlt | hge
  ·obtain ⟨r, y0, rl, rc⟩ := FK.out.at_ (i := i) (by rw [upMap_len _ _ hi]; exact hlt)
   rw [upMap_at _ _ hlt] at rc
   have HR := Ho.mk (And.intro rl rc)
   clear rl rc
   go_wp2_with (first | (go_at_call 54; (with_reducible refine (OP.out _ _ HR.out.1).mono ?_); rintro e w1 ⟨r1, rfl, l1, c1, b1⟩; have FB := Ho.mk (FK.out.bel b1); have HW1 := Ho.mk (HW.out.trans (b1.gr b)); have HC := Ho.mk (And.intro l1 c1); obtain ⟨_, y1, _, _⟩ := FB.out.at_ (i := i) (by rw [upMap_len _ _ hi]; exact hlt); have z1 := FB.out.free i; clear l1 c1 b1) | fail)
   go_roundw
   case rel =>
    refine ⟨i + 1, by omega, by simp, ⟨?_⟩, ⟨HW1.out.set i _⟩⟩
    have := FB.out.set i HC.out.1 HC.out.2
    rw [HR.out.2, upMap_set (fng) X hlt] at this
    exact this
   case measure => simp [intOf]; omega
  ·obtain rfl : i = X.length := by omega
   rw [upMap_all] at FK
   go_wp2
   go_end0
   exact ⟨rfl, FK.out, HW.out⟩
theorem dEachS {b n c s : Nat} {X : List Nat} (W0 : World) (KX : Fz W0 b X) (hX : X.length = n) (hm : n ≤ 100000) (hs : s < 2 * sgnW) :
  Calls Tryz.prog 53 #[.slice (some ⟨b, 0, none⟩) n c, .func (.func 57) #[.float .f64 s] #[]] W0
   fun e w' => e = .returned (.tuple #[]) ∧ Fz w' b (X.map (fun x => fmul x (cn s))) ∧ Gr b W0 w' := by
 subst hX
 have K1 := Ho.mk KX
 have OP := Ho.mk (fun (w : World) (r : Nat) (h : r < 2 * sgnW) => dShare w h hs)
 clear KX
 go_enter Tryz.func53, Tryz.ntmps53
 go_wp2_with fail
 go_loopw [8] (fun v wr => ∃ (i : Nat), i ≤ X.length ∧ v = .int .i64 i ∧ Ho (Fz wr b (upMap (fun x => fmul x (cn s)) X i)) ∧ Ho (Gr b W0 wr)) (fun v _ => X.length - (intOf v).toNat)
 case atStart => exact ⟨0, Nat.zero_le _, rfl, ⟨by rw [upMap_zero]; exact K1.out⟩, ⟨Gr.refl _ _⟩⟩
 case round =>
  obtain ⟨i, hi, rfl, FK, HW⟩ := hrel
  rcases Nat.lt_or_ge i X.length with hlt | hge
  ·obtain ⟨r, y0, rl, rc⟩ := FK.out.at_ (i := i) (by rw [upMap_len _ _ hi]; exact hlt)
   rw [upMap_at _ _ hlt] at rc
   have HR := Ho.mk (And.intro rl rc)
   clear rl rc
   go_wp2_with (first | (go_at_call 57; (with_reducible refine (OP.out _ _ HR.out.1).mono ?_); rintro e w1 ⟨r1, rfl, l1, c1, b1⟩; have FB := Ho.mk (FK.out.bel b1); have HW1 := Ho.mk (HW.out.trans (b1.gr b)); have HC := Ho.mk (And.intro l1 c1); obtain ⟨_, y1, _, _⟩ := FB.out.at_ (i := i) (by rw [upMap_len _ _ hi]; exact hlt); have z1 := FB.out.free i; clear l1 c1 b1) | fail)
   go_roundw
   case rel =>
    refine ⟨i + 1, by omega, by simp, ⟨?_⟩, ⟨HW1.out.set i _⟩⟩
    have := FB.out.set i HC.out.1 HC.out.2
    rw [HR.out.2, upMap_set (fun x => fmul x (cn s)) X hlt] at this
    exact this
   case measure => simp [intOf]; omega
  ·obtain rfl : i = X.length := by omega
   rw [upMap_all] at FK
   go_wp2
   go_end0
   exact ⟨rfl, FK.out, HW.out⟩
theorem dEach0 {A : Option Addr} {c : Nat} {f : Value} (W0 : World) :
  Calls Tryz.prog 53 #[.slice A 0 c, f] W0 fun e w' => e = .returned (.tuple #[]) ∧ W0 = w' := by
 go_enter Tryz.func53, Tryz.ntmps53
 go_wp2_with fail
 refine wp_loop_rounds 1 ?_
 rw [rounds_succ]
 go_wp2
 go_end0
 exact ⟨rfl, rfl⟩
end Pa
namespace Pb
open Ieee Go Go.RowKit Go.Extern.Stop Go.Stop Go.Extern Go.Proofs Go.Proofs.YtnbdoidccacdnaaGreatDoor Ow Dt
attribute [local go_sem ↓] Go.wp_at_zero Go.wp_at_succ
theorem isTypeOf (v : Value) (w : World) : (Extern.ReflectliteType.typeOf #[.iface 27 v]).run Tryz.prog w = .ok (.iface 160 (.agg #[.pointer (some ⟨3, 27, none⟩)])) w := by kernel_rfl
theorem isComparable (w : World) : (callFunc 287 #[.agg #[.pointer (some ⟨3, 27, none⟩)]]).run Tryz.prog w = .ok (.value (.bool true)) w := by
 rw [run_callFunc_extern (e := Extern.ReflectliteType.method fun t => do Extern.Rtype.noPackHeld "Comparable" t; pure (.bool (← typeInfo t).comparable)) Tryz.func287 rfl rfl rfl rfl]; kernel_rfl
theorem isMethod (n : Nat) (v : Value) (w : World) : (Go.method (n + 1) 160 v "Comparable").run Tryz.prog w = .ok (287, v) w := by kernel_rfl
theorem eqErr (w : World) : (binOp .eql 68 (.iface 27 (.int .i64 2)) (.iface 27 (.int .i64 2))).run Tryz.prog w = .ok (.bool true) w := by kernel_rfl
theorem neErr (w : World) : (binOp .eql 68 .nilIface (.iface 27 (.int .i64 2))).run Tryz.prog w = .ok (.bool false) w := by kernel_rfl
theorem isNil (w : World) : Calls Tryz.prog 56 #[.nilIface, .iface 27 (.int .i64 2)] w fun e w' => e = .returned (.bool false) ∧ w' = w := by
 have hn := neErr w
 have hn2 := run_eql_iface_nil_left (P := Tryz.prog) w 27 (.int .i64 2) Tryz.underlying68
 go_enter Tryz.func56, Tryz.ntmps56
 go_wp2
 go_ret
 exact ⟨rfl, rfl⟩
theorem isSame (w : World) : Calls Tryz.prog 56 #[.iface 27 (.int .i64 2), .iface 27 (.int .i64 2)] w fun e w' => e = .returned (.bool true) ∧ w' = w := by
 have h8 := @run_callFunc_extern Tryz.prog 106 _ Extern.ReflectliteType.typeOf Tryz.func106 (by kernel_rfl) (by kernel_rfl) (by kernel_rfl) (by kernel_rfl)
 have tT := isTypeOf
 have cT := isComparable
 have mR := isMethod
 have heq := eqErr w
 go_enter Tryz.func56, Tryz.ntmps56
 go_wp2
 refine wp_loop_rounds 1 ?_
 rw [rounds_succ]
 go_wp2
 go_ret
 exact ⟨rfl, rfl⟩
end Pb
namespace Pc
open Ieee Go Go.RowKit Go.Proofs Go.Proofs.YtnbdoidccacdnaaGreatDoor Ow Dt Gp U0 W0 S4 S6 P0 M0 M1 M2 M3 P4 P5 P6 P8 Pa Pb W4 W5 W1 W2
attribute [local go_sem ↓] Go.wp_at_zero Go.wp_at_succ
def intoN (p : Nat) (st : List Nat × List Nat) : List Nat × List Nat := intoG opsN (bitsG p) p (tabW p) st
def invN (p : Nat) (st : List Nat × List Nat) : List Nat × List Nat :=
 let r := intoN p (st.1, st.2.map fng)
 (r.1.map fun x => fmul x (P2 (1023 - p)), (r.2.map fun x => fmul x (P2 (1023 - p))).map fng)
theorem intoN_len {p : Nat} {st : List Nat × List Nat} (h1 : st.1.length = 2 ^ p) (h2 : st.2.length = 2 ^ p) : (intoN p st).1.length = 2 ^ p ∧ (intoN p st).2.length = 2 ^ p := by
 refine stages_len opsN (fun q k => tabW p (k * 2 ^ (p - (q + 1)))) (st := (swapG opsN (bitsG p) st.1, swapG opsN (bitsG p) st.2)) ?_ ?_ (Nat.le_refl p)
 ·rw [swapG_len]; exact h1
 ·rw [swapG_len]; exact h2
theorem conv_ok : ∀ p : Fin 8, floatOfInt .f64 ((2 ^ p.val : Nat) : Int) = P2 (1023 + p.val) ∧ floatBits .quo .f64 4607182418800017408 (P2 (1023 + p.val)) = some (P2 (1023 - p.val)) ∧ P2 (1023 - p.val) < 2 * sgnW ∧ cn (P2 (1023 - p.val)) = P2 (1023 - p.val) := by decide +kernel
theorem dInvInto {p N c c' b b' : Nat} {X Y : List Nat} (W0 : World) (T : Tab W0) (KX : Fz W0 b X) (KY : Fz W0 b' Y) (hb : b ≠ b') (hN : N = 2 ^ p) (hX : X.length = N) (hY : Y.length = N) (hp7 : p ≤ 7) (hc : N ≤ c) (hc' : N ≤ c') (hC : c ≤ 9223372036854775807) (hC' : c' ≤ 9223372036854775807) :
  Calls Tryz.prog 20 #[.agg #[.slice (some ⟨b, 0, none⟩) N c, .slice (some ⟨b', 0, none⟩) N c']] W0
   fun e w' => e = .returned (.int .i64 0) ∧ Fz w' b (invN p (X, Y)).1 ∧ Fz w' b' (invN p (X, Y)).2 ∧ Gr2 b b' W0 w' := by
 have hpos : 0 < N := by rw [hN]; exact Nat.two_pow_pos p
 have h128 : N ≤ 128 := by rw [hN]; exact Nat.le_trans (Nat.pow_le_pow_right (by decide) hp7) (by decide)
 have b2 := tab_ne T KX (by omega)
 have b2' := tab_ne T KY (by omega)
 obtain ⟨cv1, cv2, cv3, cv4⟩ := conv_ok ⟨p, by omega⟩
 dsimp only at cv1 cv2 cv3 cv4
 rw [← hN] at cv1
 have CV3 := Ho.mk cv3
 have CV4 := Ho.mk cv4
 have hq := fun (t : TypeId) (w : World) => run_float_arith (P := Tryz.prog) w .quo t .f64 _ _ _ cv2
 have lb := KX.lt
 have lb' := KY.lt
 have T0 := Ho.mk T
 have F1 := Ho.mk KX
 have F2 := Ho.mk KY
 have HN := Ho.mk hN
 have HX := Ho.mk hX
 have HY := Ho.mk hY
 have KV0 := Ho.mk (Blk.new W0 [.slice (some ⟨b, 0, none⟩) N c, .slice (some ⟨b', 0, none⟩) N c'] 24)
 have g0 := Ho.mk ((Bel.refl W0).alloc (.cells #[.slice (some ⟨b, 0, none⟩) N c, .slice (some ⟨b', 0, none⟩) N c'] 24))
 clear T KX KY hN hX hY cv2 cv3 cv4
 go_enter Tryz.func20, Tryz.ntmps20
 go_upto_region 1 with fail
 have F1 := Ho.mk (F1.out.bel g0.out)
 have F2 := Ho.mk (F2.out.bel g0.out)
 have T1 := Ho.mk (T0.out.bel g0.out)
 have G0 := Ho.mk (gr2_bel g0.out b b')
 generalize W0.alloc (.cells #[.slice (some ⟨b, 0, none⟩) N c, .slice (some ⟨b', 0, none⟩) N c'] 24) = W at *
 have y1 := KV0.out.cell (i := 1) rfl
 have E1 := Ho.mk (dEachO (n := N) (c := c') W F2.out HY.out (by omega))
 go_wp2_with fail
 (with_reducible refine E1.out.mono ?_); rintro e w1 ⟨rfl, f1, G1⟩
 have F2 := Ho.mk f1
 have F1 := Ho.mk (gr_fz G1 F1.out hb)
 have GX := Ho.mk (Gr2.of2 (b := b) G1)
 have G0 := Ho.mk (G0.out.trans GX.out)
 have T1 := Ho.mk (GX.out.tab T1.out b2 b2')
 clear f1 G1 E1 y1 g0
 have KV := Ho.mk (GX.out.blk KV0.out (by omega) (by omega))
 have y0 := KV.out.cell (i := 0) rfl
 have y1 := KV.out.cell (i := 1) rfl
 have IN := Ho.mk (dInto (p := p) (N := N) (c := c) (c' := c') w1 T1.out F1.out F2.out hb HN.out HX.out (by rw [List.length_map]; exact HY.out) hp7 hc hc' hC hC')
 go_wp2_with fail
 (with_reducible refine IN.out.mono ?_); rintro e w2 ⟨rfl, f1, f2, G2⟩
 have LN := Ho.mk (intoN_len (p := p) (st := (X, Y.map fng)) (by rw [← HN.out]; exact HX.out) (by rw [← HN.out, List.length_map]; exact HY.out))
 have F1 : Ho (Fz w2 b (intoN p (X, Y.map fng)).1) := ⟨f1⟩
 have F2 : Ho (Fz w2 b' (intoN p (X, Y.map fng)).2) := ⟨f2⟩
 have G0 := Ho.mk (G0.out.trans G2)
 have GX := Ho.mk (GX.out.trans G2)
 obtain ⟨st, hst⟩ : ∃ st, st = intoN p (X, Y.map fng) := ⟨_, rfl⟩
 rw [← hst] at F1 F2 LN
 have HST := Ho.mk hst
 rw [← HN.out] at LN
 clear f1 f2 G2 IN hst y0 y1
 have KV := Ho.mk (GX.out.blk KV0.out (by omega) (by omega))
 have y0 := KV.out.cell (i := 0) rfl
 have y1 := KV.out.cell (i := 1) rfl
 go_wp2_with (go_at_call 56; (with_reducible refine (isNil _).mono ?_); rintro e w3 ⟨rfl, rfl⟩)
 have S1 := Ho.mk (dEachS (n := N) (c := c) w3 F1.out LN.out.1 (by omega) CV3.out)
 (with_reducible refine S1.out.mono ?_); rintro e w4 ⟨rfl, f1, G1⟩
 rw [CV4.out] at f1
 have F1 := Ho.mk f1
 have F2 := Ho.mk (gr_fz G1 F2.out (Ne.symm hb))
 have GX := Ho.mk (GX.out.trans (Gr2.of1 G1))
 have G0 := Ho.mk (G0.out.trans (Gr2.of1 G1))
 clear f1 G1 S1 y0 y1
 have KV := Ho.mk (GX.out.blk KV0.out (by omega) (by omega))
 have y0 := KV.out.cell (i := 0) rfl
 have y1 := KV.out.cell (i := 1) rfl
 have S2 := Ho.mk (dEachS (n := N) (c := c') w4 F2.out LN.out.2 (by omega) CV3.out)
 go_wp2_with fail
 (with_reducible refine S2.out.mono ?_); rintro e w5 ⟨rfl, f2, G1⟩
 rw [CV4.out] at f2
 have F2 := Ho.mk f2
 have F1 := Ho.mk (gr_fz G1 F1.out hb)
 have GX := Ho.mk (GX.out.trans (Gr2.of2 G1))
 have G0 := Ho.mk (G0.out.trans (Gr2.of2 G1))
 clear f2 G1 S2 y0 y1
 have KV := Ho.mk (GX.out.blk KV0.out (by omega) (by omega))
 have y0 := KV.out.cell (i := 0) rfl
 have y1 := KV.out.cell (i := 1) rfl
 have S3 := Ho.mk (dEachO (n := N) (c := c') w5 F2.out (by rw [List.length_map]; exact LN.out.2) (by omega))
 go_wp2_with fail
 (with_reducible refine S3.out.mono ?_); rintro e w6 ⟨rfl, f2, G1⟩
 have F2 := Ho.mk f2
 have F1 := Ho.mk (gr_fz G1 F1.out hb)
 have G0 := Ho.mk (G0.out.trans (Gr2.of2 G1))
 clear f2 G1 S3 y0 y1
 go_wp2
 go_ret
 refine ⟨rfl, ?_, ?_, G0.out⟩
 ·unfold invN; rw [← HST.out]; exact F1.out
 ·unfold invN; rw [← HST.out]; exact F2.out
end Pc
namespace Pn
open Ieee Go Gp Gq Gr G9 W0 W1 W2 Pc
theorem told_opp (s : Bool) (m : Nat) (e : Int) : told (some (.number (!s) m e)) = fng (told (some (.number s m e))) := by
 by_cases h0 : m = 0
 ·subst h0; rw [told_num0, told_num0]; decide
 ·rw [told_num _ h0, told_num _ h0]
  have hl : min (rung (toX m e) (toS e)) infR < sgnW := Nat.lt_of_le_of_lt (Nat.min_le_right _ _) infR_lt
  rw [← neg_word s hl, neg_cn (word_lt2 _ hl)]
theorem told_oppI (s : Bool) : told (some (.infinity (!s))) = fng (told (some (.infinity s))) := by cases s <;> decide
theorem fmul_fng {y e : Nat} (h : y < 2 * sgnW) (hc : cn y = y) (h1 : 1 ≤ e) (h2 : e ≤ 2046) : fmul (fng y) (P2 e) = fng (fmul y (P2 e)) := by
 have hP := (P2_facts h1 h2).1
 have e1 : fng y = cn (Op.negFloat .f64 y) := rfl
 have e2 : fmul (cn (Op.negFloat .f64 y)) (P2 e) = fmul (Op.negFloat .f64 y) (P2 e) := by
  have := fmul_cn (fng_lt' h) hP.lt
  rwa [hP.cl] at this
 rw [e1, e2, xor_top' y h]
 obtain ⟨n1, n2⟩ := word_neg (!fneg y) (word_split h).2
 have nl := word_lt2 (!fneg y) (word_split h).2
 unfold fmul
 rw [read_P2 h1 h2]
 rcases cls h hc with hx | hx | rfl
 ·rw [read_fin hx.lt hx.fin, read_fin nl (by rw [n2]; exact hx.fin), n1, n2]
  simp only [Datum.product, Bool.xor_false]
  exact told_opp _ _ _
 ·rw [read_inf h hx, read_inf nl (by rw [n2]; exact hx), n1]
  simp only [Datum.product, show bn ≠ 0 from by decide, if_false, Bool.xor_false]
  exact told_oppI _
 ·have g : infR < frung qn := by decide
  rw [read_nan h g, read_nan nl (by rw [n2]; exact g)]
  show qn = fng qn
  decide
def ov (p x : Nat) : Nat := fdiv x (P2 (1023 + p))
end Pn
namespace Po
open Ieee Go Gp Gq Gr G9 U0 W0 W1 W2 M0 M1 M2 M3 Pc Pn
def nmB (x : Nat) : Bool := decide (x < 2 * sgnW) && (decide (frung x < infR) && (cn x == x))
theorem nm_of {x : Nat} (h : nmB x = true) : Nm x := by
 unfold nmB at h
 simp only [Bool.and_eq_true, decide_eq_true_eq, beq_iff_eq] at h
 exact ⟨h.1, h.2.1, h.2.2⟩
def tabOk (p : Nat) : Bool := (List.range (2 ^ (p - 1))).all fun j => nmB (tabW p j).1 && nmB (tabW p j).2
theorem tab_ok : ∀ p : Fin 8, tabOk p.val = true := by decide +kernel
def twp (p q k : Nat) : Nat × Nat := tabW p (k * 2 ^ (p - (q + 1)))
theorem twp_ok {p : Nat} (hp : p ≤ 7) : TwOk (twp p) p := by
 intro q k hq hk
 have h := tab_ok ⟨p, by omega⟩
 unfold tabOk at h
 simp only [List.all_eq_true, List.mem_range, Bool.and_eq_true] at h
 have hlt : k * 2 ^ (p - (q + 1)) < 2 ^ (p - 1) := by
  have := Nat.mul_lt_mul_of_pos_right hk (Nat.two_pow_pos (p - (q + 1)))
  rw [← Nat.pow_add, show q + (p - (q + 1)) = p - 1 by omega] at this
  exact this
 obtain ⟨a, b⟩ := h _ hlt
 exact ⟨nm_of a, nm_of b⟩
theorem delta_map (n a : Nat) (g : Nat → Nat) (h : g 0 = 0) : (delta n a).map g = delta n (g a) := by
 unfold delta
 rw [List.map_map]
 apply List.map_congr_left
 intro i _
 show g (if i = 0 then a else 0) = if i = 0 then g a else 0
 split
 ·rfl
 ·exact h
theorem fng_zero : fng 0 = 0 := by decide
theorem into_one {p a b : Nat} (hp : p ≤ 7) (ha : Nm a) (hb : Nm b) : intoN p (delta (2 ^ p) a, delta (2 ^ p) b) = (List.replicate (2 ^ p) a, List.replicate (2 ^ p) b) := by
 unfold intoN
 rw [into_rec opsN (tabW p) (twp p) hp (fun _ _ _ _ => rfl) _ (delta_len _ _) (delta_len _ _)]
 exact rec_one (twp p) p (twp_ok hp) ha hb
theorem into_alike {p a b : Nat} (hp : p ≤ 7) (ha : Up a p) (hb : Up b p) : intoN p (List.replicate (2 ^ p) a, List.replicate (2 ^ p) b) = (delta (2 ^ p) (pw a p), delta (2 ^ p) (pw b p)) := by
 unfold intoN
 rw [into_rec opsN (tabW p) (twp p) hp (fun _ _ _ _ => rfl) _ List.length_replicate List.length_replicate]
 exact rec_alike (twp p) p (twp_ok hp) ha hb
theorem back {p y : Nat} (hp : p ≤ 7) (h : Nm y) : fng (fmul (fng y) (P2 (1023 - p))) = ov p y := by
 obtain ⟨a, _⟩ := fng_facts h
 rw [← fmul_fng a.lt a.cl (by omega) (by omega), fng_fng h]
 exact (fdiv_P2 h.lt h.cl (by omega)).symm
theorem inv_one {p a b : Nat} (hp : p ≤ 7) (ha : Nm a) (hb : Nm b) : invN p (delta (2 ^ p) a, delta (2 ^ p) b) = (List.replicate (2 ^ p) (ov p a), List.replicate (2 ^ p) (ov p b)) := by
 unfold invN
 rw [delta_map _ _ _ fng_zero, into_one hp ha (fng_facts hb).1]
 simp only [List.map_replicate]
 rw [back hp hb, ← fdiv_P2 ha.lt ha.cl (by omega)]; rfl
theorem up_fng {b n : Nat} (h : Up b n) : Up (fng b) n := by
  obtain ⟨h1, h2⟩ := fng_facts h.nm
  refine ⟨h1, ?_⟩
  rcases h.ok with q | q
  · exact .inl (by rw [h2, q]; rfl)
  · refine .inr ?_
    have hs := (word_split h.nm.lt).2
    have e : frung (fng b) = frung b := by
      unfold fng
      rw [xor_top' b h.nm.lt, word_parts _ (Nat.le_of_lt h.nm.fin), if_neg (by have : 0 < bn := by decide
                                                                               omega)]
      exact (word_neg _ hs).2
    rw [e]; exact q
theorem inv_alike {p a b : Nat} (hp : p ≤ 7) (ha : Up a p) (hb : Up b p) : invN p (List.replicate (2 ^ p) a, List.replicate (2 ^ p) b) = (delta (2 ^ p) a, delta (2 ^ p) b) := by
 have hP : Nm (P2 (1023 - p)) := (P2_facts (by omega) (by omega)).1
 have z : fmul 0 (P2 (1023 - p)) = 0 := zero_fmul hP
 unfold invN
 rw [List.map_replicate, into_alike hp ha (up_fng hb)]
 simp only
 rw [delta_map _ _ _ z, delta_map _ _ _ z, delta_map _ _ _ fng_zero, pw_down ha (Nat.le_refl _) (by omega), pw_down (up_fng hb) (Nat.le_refl _) (by omega), fng_fng hb.nm]
theorem up_mid {r : Nat} (h : r < 2 * sgnW) (hf : frung r ≤ infR) (hm : V r = 0 ∨ (mag (P2 723) ≤ (V r).natAbs ∧ (V r).natAbs ≤ mag (P2 1323))) : Up (cn r) 7 := by
 have hb : infR = 2047 * bn := by decide
 rcases hm with h0 | ⟨h1, h2⟩
 ·have e : frung r = 0 := by
   have := V_abs r
   rw [h0] at this
   exact mag_inj (by rw [← this, mag_zero]; rfl)
  have : cn r = 0 := by unfold cn; rw [if_neg (by omega), if_pos e]
  rw [this]
  exact ⟨nm_zero, .inl (by decide)⟩
 ·rw [V_abs, mag_le] at h1 h2
  unfold P2 at h1 h2
  have hpos : 0 < bn := by decide
  have hlt : frung r < infR := by omega
  have e : cn r = r := by unfold cn; rw [if_neg (by omega), if_neg (by omega)]
  rw [e]
  exact ⟨⟨h, hlt, e⟩, .inr ⟨by omega, by omega⟩⟩
end Po
namespace Pe
open Ieee Go Go.RowKit Go.Proofs Go.Proofs.YtnbdoidccacdnaaGreatDoor Ow Dt Gp G9 U0 W0 S4 S6 P0 M0 M1 M2 M3 P4 P5 P6 P8 Pa Pb W4 W5 W1 W2 Pc
attribute [local go_sem ↓] Go.wp_at_zero Go.wp_at_succ
def Bad (n m : Nat) : Prop := ¬ (n = m ∧ 0 ≤ logI n)
theorem fng_fngC {x : Nat} (h : x < 2 * sgnW) (hc : cn x = x) : fng (fng x) = x := by
 rcases cls h hc with q | q | rfl
 ·exact fng_fng q
 ·have hx := (word_split h).1
  rw [q] at hx
  have e := xor_top' x h
  rw [q] at e
  have e2 : fng x = double.word (!fneg x) infR := by
   unfold fng; rw [e, word_parts _ (Nat.le_refl _), if_neg (by decide)]
  have e3 : fng (double.word (!fneg x) infR) = double.word (fneg x) infR := by
   unfold fng
   rw [neg_word _ infR_lt, Bool.not_not, word_parts _ (Nat.le_refl _), if_neg (by decide)]
  rw [e2, e3]; exact hx.symm
 ·decide
def Cl (X : List Nat) : Prop := ∀ x ∈ X, x < 2 * sgnW ∧ cn x = x
theorem fng_row {X : List Nat} (h : Cl X) : (X.map fng).map fng = X := by
 rw [List.map_map]
 conv => rhs; rw [← List.map_id X]
 exact List.map_congr_left fun x hx => fng_fngC (h x hx).1 (h x hx).2
theorem Fz.cl {w : World} {b : Nat} {X : List Nat} (h : Fz w b X) : Cl X := fun x hx => by
 obtain ⟨i, hi, rfl⟩ := List.getElem_of_mem hx
 obtain ⟨r, _, h1, h2⟩ := h.at_ hi
 rw [nthN_lt hi] at h2
 rw [← h2]; exact ⟨cn_lt h1, cn_idem r⟩
theorem Fr.cl {w : World} {A : Option Addr} {X : List Nat} (h : Fr w A X) : Cl X := fun x hx => by
 obtain ⟨i, hi, rfl⟩ := List.getElem_of_mem hx
 obtain ⟨ad, r, _, _, h1, h2⟩ := h.at_ hi
 rw [nthN_lt hi] at h2
 rw [← h2]; exact ⟨cn_lt h1, cn_idem r⟩
theorem dIntoBad {n m c c' : Nat} {A B : Option Addr} (W0 : World) (T : Tab W0) (hn : n < 1100) (hm : m < 1100) (hbad : Bad n m) :
  Calls Tryz.prog 55 #[.agg #[.slice A n c, .slice B m c']] W0 fun e w' => e = .returned (.int .i64 2) ∧ Bel W0 w' := by
 have RI := Ho.mk (fun w (g : Bel W0 w) => (by
  have h := dRightV (n := n) (m := m) (c := c) (c' := c') (A := A) (B := B) w (T.bel g) hn hm
  rw [decide_eq_false hbad] at h; exact h : Calls Tryz.prog 99 #[.agg #[.slice A n c, .slice B m c']] w (fun e w' => e = .returned (.bool false) ∧ Bel w w')))
 have KV := Ho.mk (Blk.new W0 [.slice A n c, .slice B m c'] 24)
 have g0 := Ho.mk ((Bel.refl W0).alloc (.cells #[.slice A n c, .slice B m c'] 24))
 clear T hbad
 go_enter Tryz.func55, Tryz.ntmps55
 go_upto_region 1 with fail
 generalize W0.alloc (.cells #[.slice A n c, .slice B m c'] 24) = W at *
 have y0 := KV.out.cell (i := 0) rfl
 have y1 := KV.out.cell (i := 1) rfl
 go_wp2_with (go_at_call 99; (with_reducible refine (RI.out _ g0.out).mono ?_); rintro e w1 ⟨rfl, b1⟩)
 go_ret
 exact ⟨rfl, g0.out.trans b1⟩
theorem dInvBad1 {n m c c' b' : Nat} {A : Option Addr} {Y : List Nat} (W0 : World) (T : Tab W0) (KY : Fz W0 b' Y) (hY : Y.length = m) (hm0 : 0 < m) (hn : n < 1100) (hm : m < 1100) (hbad : Bad n m) :
  Calls Tryz.prog 20 #[.agg #[.slice A n c, .slice (some ⟨b', 0, none⟩) m c']] W0 fun e w' => e = .returned (.int .i64 2) ∧ Fz w' b' Y ∧ Gr b' W0 w' := by
 have b2 := tab_ne T KY (by omega)
 have CY := Ho.mk (fng_row (Fz.cl KY))
 have lb := KY.lt
 have F2 := Ho.mk KY
 have HY := Ho.mk hY
 have T0 := Ho.mk T
 have HB := Ho.mk hbad
 have KV0 := Ho.mk (Blk.new W0 [.slice A n c, .slice (some ⟨b', 0, none⟩) m c'] 24)
 have g0 := Ho.mk ((Bel.refl W0).alloc (.cells #[.slice A n c, .slice (some ⟨b', 0, none⟩) m c'] 24))
 clear T hbad KY hY
 go_enter Tryz.func20, Tryz.ntmps20
 go_upto_region 1 with fail
 have T1 := Ho.mk (T0.out.bel g0.out)
 have F2 := Ho.mk (F2.out.bel g0.out)
 generalize W0.alloc (.cells #[.slice A n c, .slice (some ⟨b', 0, none⟩) m c'] 24) = W at *
 have y1 := KV0.out.cell (i := 1) rfl
 have E1 := Ho.mk (dEachO (n := m) (c := c') W F2.out HY.out (by omega))
 go_wp2_with fail
 (with_reducible refine E1.out.mono ?_); rintro e w1 ⟨rfl, f1, G1⟩
 have F2 := Ho.mk f1
 have T1 : Ho (Tab w1) := ⟨⟨fun i hi => by have := T1.out.cell i hi; unfold World.cell? at this ⊢; rw [G1.block 2 (I4.Tab.lt T1.out) b2]; exact this⟩⟩
 have KV := Ho.mk (G1.blk KV0.out (by omega))
 have G0 := Ho.mk ((g0.out.gr b').trans G1)
 clear f1 G1 E1 y1
 have y0 := KV.out.cell (i := 0) rfl
 have y1 := KV.out.cell (i := 1) rfl
 have IN := Ho.mk (dIntoBad (n := n) (m := m) (c := c) (c' := c') (A := A) (B := some ⟨b', 0, none⟩) w1 T1.out hn hm HB.out)
 go_wp2_with fail
 (with_reducible refine IN.out.mono ?_); rintro e w2 ⟨rfl, bz⟩
 have KV := Ho.mk (KV.out.bel bz)
 have G0 := Ho.mk (G0.out.trans (bz.gr b'))
 have F2 := Ho.mk (F2.out.bel bz)
 clear bz y0 y1 IN
 have y1 := KV.out.cell (i := 1) rfl
 have E2 := Ho.mk (dEachO (n := m) (c := c') w2 F2.out (by rw [List.length_map]; exact HY.out) (by omega))
 go_wp2_with (go_at_call 56; (with_reducible refine (isSame _).mono ?_); rintro e w3 ⟨rfl, rfl⟩)
 (with_reducible refine (E2.out).mono ?_); rintro e w4 ⟨rfl, f4, G4⟩
 go_wp2
 go_ret
 rw [CY.out] at f4
 exact ⟨rfl, f4, G0.out.trans G4⟩
theorem dInvBad0 {n c c' : Nat} {A B : Option Addr} (W0 : World) (T : Tab W0) (hn : n < 1100) (hbad : Bad n 0) :
  Calls Tryz.prog 20 #[.agg #[.slice A n c, .slice (B) 0 c']] W0 fun e w' => e = .returned (.int .i64 2) ∧ Bel W0 w' := by
 have hm : (0 : Nat) < 1100 := by decide
 have T0 := Ho.mk T
 have HB := Ho.mk hbad
 have KV0 := Ho.mk (Blk.new W0 [.slice A n c, .slice (B) 0 c'] 24)
 have g0 := Ho.mk ((Bel.refl W0).alloc (.cells #[.slice A n c, .slice (B) 0 c'] 24))
 clear T hbad
 go_enter Tryz.func20, Tryz.ntmps20
 go_upto_region 1 with fail
 have T1 := Ho.mk (T0.out.bel g0.out)
 generalize W0.alloc (.cells #[.slice A n c, .slice (B) 0 c'] 24) = W at *
 have y1 := KV0.out.cell (i := 1) rfl
 go_wp2_with fail
 (with_reducible refine (dEach0 W).mono ?_); rintro e w1 ⟨rfl, rfl⟩
 have KV := KV0
 have G0 := g0
 clear y1
 have y0 := KV.out.cell (i := 0) rfl
 have y1 := KV.out.cell (i := 1) rfl
 have IN := Ho.mk (dIntoBad (n := n) (m := 0) (c := c) (c' := c') (A := A) (B := B) W T1.out hn hm HB.out)
 go_wp2_with fail
 (with_reducible refine IN.out.mono ?_); rintro e w2 ⟨rfl, bz⟩
 have KV := Ho.mk (KV.out.bel bz)
 have G0 := Ho.mk (G0.out.trans bz)
 clear bz y0 y1 IN
 have y1 := KV.out.cell (i := 1) rfl
 go_wp2_with (go_at_call 56; (with_reducible refine (isSame _).mono ?_); rintro e w3 ⟨rfl, rfl⟩)
 (with_reducible refine (dEach0 _).mono ?_); rintro e w4 ⟨rfl, rfl⟩
 go_wp2
 go_ret
 exact ⟨rfl, G0.out⟩
end Pe
namespace Pg
open Ieee Go Go.RowKit Go.Proofs Go.Proofs.YtnbdoidccacdnaaGreatDoor Ow Dt Gp I0 U0 W0 S4 S6 P0 M0 M1 M2 M3 P4 P5 P6 P8 Pa Pb W4 W5 W1 W2 Pc Pe
attribute [local go_sem ↓] Go.wp_at_zero Go.wp_at_succ
structure In (w : World) (v : Value) (X : List Nat) : Prop where
 out : ∃ A c, v = .slice A X.length c ∧ X.length ≤ c ∧ c ≤ 9223372036854775807 ∧ Fr w A X ∧ (A = none → X.length = 0)
theorem In.bel {w w' : World} {v : Value} {X : List Nat} (h : In w v X) (g : Bel w w') : In w' v X := by
 obtain ⟨A, c, h1, h2, h3, h4, h5⟩ := h.out
 exact ⟨A, c, h1, h2, h3, h4.bel g, h5⟩
theorem RowF.inn {w : World} {B : Nat} {v : Value} {X : List Nat} (h : RowF w B v X) (hm : X.length ≤ 35184372088831) : In w v X := by
 obtain ⟨A, c, h1, h2, h3, h4⟩ := h.out
 refine ⟨A, c, h1, h2, h3, ?_, fun e => ?_⟩
 ·rcases h4 with h4 | ⟨b, rfl, f, l⟩
  ·obtain rfl := List.length_eq_zero_iff.1 h4; exact Fr.nil _ _
  ·exact f.fr hm
 ·rcases h4 with h4 | ⟨b, rfl, f, l⟩
  ·exact h4
  ·cases e
theorem In.cl {w : World} {v : Value} {X : List Nat} (h : In w v X) : Cl X := by
 obtain ⟨A, c, h1, h2, h3, h4, h5⟩ := h.out
 exact Fr.cl h4
theorem dCloneI {v : Value} {X : List Nat} (w : World) (h : In w v X) (hl : X.length ≤ 100000) :
  Calls Tryz.prog 96 #[v] w fun e w' => ∃ u, e = .returned u ∧ RowF w' w.heap.size u X ∧ Bel w w' := by
 obtain ⟨A, c, rfl, h2, h3, h4, h5⟩ := h.out
 exact dClone w h4 h5 hl rfl
def MakesV (W0 : World) (X Y : List Nat) (e : Ending) (w' : World) : Prop := ∃ A c B c', e = .returned (.agg #[.slice A X.length c, .slice B Y.length c']) ∧ Two w' W0.heap.size (.slice A X.length c) (.slice B Y.length c') X Y ∧ Bel W0 w'
theorem dOwn {A B : Option Addr} {c c' : Nat} {X Y : List Nat} (w : World) (hx : In w (.slice A X.length c) X) (hy : In w (.slice B Y.length c') Y) (hl : X.length ≤ 100000) (hl' : Y.length ≤ 100000) :
  Calls Tryz.prog 51 #[.agg #[.slice A X.length c, .slice B Y.length c']] w (MakesV w X Y) := by
 have KV := Ho.mk ((Blk.new w [.slice A X.length c, .slice B Y.length c'] 24).old (.cells #[.slice none 0 0, .slice none 0 0] 24))
 have KR := Ho.mk (Blk.new (w.alloc (.cells #[.slice A X.length c, .slice B Y.length c'] 24)) [.slice none 0 0, .slice none 0 0] 24)
 have g0 := Ho.mk (((Bel.refl w).alloc (.cells #[.slice A X.length c, .slice B Y.length c'] 24)).alloc (.cells #[.slice none 0 0, .slice none 0 0] 24))
 rw [World.size_alloc] at KR
 go_enter Tryz.func51, Tryz.ntmps51
 go_wp2_with fail
 have hs : w.heap.size + 1 < ((w.alloc (.cells #[.slice A X.length c, .slice B Y.length c'] 24)).alloc (.cells #[.slice none 0 0, .slice none 0 0] 24)).heap.size := by simp only [World.size_alloc]; omega
 generalize (w.alloc (.cells #[.slice A X.length c, .slice B Y.length c'] 24)).alloc (.cells #[.slice none 0 0, .slice none 0 0] 24) = W at *
 have C0 := Ho.mk (fun w' (g : Bel w w') => dCloneI w' (hx.bel g) hl)
 have C1 := Ho.mk (fun w' (g : Bel w w') => dCloneI w' (hy.bel g) hl')
 obtain ⟨bR, hbR⟩ : ∃ bR, bR = w.heap.size + 1 := ⟨_, rfl⟩
 have le_bR : w.heap.size ≤ bR := by omega
 rw [← hbR] at KR hs ⊢
 have HS := Ho.mk le_bR
 have lt_bR := hs
 clear hs
 obtain ⟨bV, hbV⟩ : ∃ bV, bV = w.heap.size := ⟨_, rfl⟩
 have ne_V : bV ≠ bR := by omega
 have le_V : bV < bR := by omega
 rw [← hbV] at KV ⊢
 clear hbV hx hy hl hl' hbR
 refine wp_region_held_drew (S := fun w' => Bel w w' ∧ Blk w' bV 24 [.slice A X.length c, .slice B Y.length c']) (by kernel_rfl) ⟨g0.out.drew, KV.out.bel (Bel.refl _).drew⟩ (fun hHeld => ?_)
 (try dsimp only at hHeld)
 have KR := Ho.mk (KR.out.bel (Bel.refl W).drew)
 have lt_bR : bR < W.drew.heap.size := lt_bR
 generalize W.drew = wd at *
 refine rt (i := 0) hHeld ?_
 refine rl (i := 1) (v := ?_) hHeld (fun w hSw => ?_) ?_
 rotate_left
 ·(have z0 := hSw.2.cell (i := 0) rfl; have z1 := hSw.2.cell (i := 1) rfl; go_simp; try (with_reducible rfl))
 refine rt (i := 3) hHeld ?_
 refine rl (i := 4) (v := ?_) hHeld (fun w hSw => ?_) ?_
 rotate_left
 ·(have z0 := hSw.2.cell (i := 0) rfl; have z1 := hSw.2.cell (i := 1) rfl; go_simp; try (with_reducible rfl))
 try simp only [Act.put, List.setIfInBounds_toArray, List.set_cons_zero, List.set_cons_succ]
 refine rc (i := 2) (fun K hK => ?_)
 go_simp
 go_at_call 96
 (with_reducible refine (C0.out _ hHeld.1).mono ?_); rintro e v1 ⟨_, rfl, r0, bv1⟩
 have S0 := lt_bR
 have Q0 := Ho.mk r0
 obtain ⟨A0, c0, rfl, _⟩ := r0.out
 have R0 := Ho.mk (RowF.mono (B' := bR + 1) r0 S0)
 clear r0
 try go_wp2_with fail
 refine hK.out _ _ ⟨Bel.trans hHeld.1 bv1, hHeld.2.bel bv1⟩ (fun hHeld => ?_)
 clear hK K
 have KR := Ho.mk (KR.out.bel bv1)
 have lt_bR := Nat.lt_of_lt_of_le lt_bR bv1.size
 clear bv1
 try simp only [Act.put, List.setIfInBounds_toArray, List.set_cons_zero, List.set_cons_succ]
 refine rc (i := 5) (fun K hK => ?_)
 go_simp
 go_at_call 96
 (with_reducible refine (C1.out _ hHeld.1).mono ?_); rintro e v2 ⟨_, rfl, r1, bv2⟩
 have S1 := lt_bR
 have Q1 := Ho.mk r1
 have NE := Ho.mk (two_of (RowF.mono (B' := bR + 1) Q0.out S0) (Nat.le_refl _) (R0.out.bel (by assumption)) r1 S1).ne
 have Q1 := Ho.mk r1
 obtain ⟨A1, c1, rfl, _⟩ := r1.out
 have R1 := Ho.mk (RowF.mono (B' := bR + 1) r1 S1)
 clear r1
 try go_wp2_with fail
 refine hK.out _ _ ⟨Bel.trans hHeld.1 bv2, hHeld.2.bel bv2⟩ (fun hHeld => ?_)
 clear hK K
 have KR := Ho.mk (KR.out.bel bv2)
 have R0 := Ho.mk (R0.out.bel bv2)
 have lt_bR := Nat.lt_of_lt_of_le lt_bR bv2.size
 clear bv2
 refine rt (i := 6) hHeld ?_
 try simp only [Act.put, List.setIfInBounds_toArray, List.set_cons_zero, List.set_cons_succ]
 have y0 := KR.out.cell (i := 0) rfl
 have y1 := KR.out.cell (i := 1) rfl
 have x0 := KR.out.free 0
 have x1 := KR.out.free 1
 refine rc (i := 7) (fun K hK => ?_)
 go_simp
 have R0 := Ho.mk ((R0.out.far (p := ⟨bR, 0, none⟩) (by dsimp only; omega) (.slice A0 X.length c0)).far (p := ⟨bR, 1, none⟩) (by dsimp only; omega) (.slice A1 Y.length c1))
 have R1 := Ho.mk ((R1.out.far (p := ⟨bR, 0, none⟩) (by dsimp only; omega) (.slice A0 X.length c0)).far (p := ⟨bR, 1, none⟩) (by dsimp only; omega) (.slice A1 Y.length c1))
 have KR := Ho.mk ((KR.out.set 0 (.slice A0 X.length c0)).set 1 (.slice A1 Y.length c1))
 simp only [List.set_cons_zero, List.set_cons_succ] at KR
 refine hK.out _ _ ⟨⟨((hHeld.1.out.setCell (p := ⟨bR, 0, none⟩) (by dsimp only; omega) (.slice A0 X.length c0)).setCell (p := ⟨bR, 1, none⟩) (by dsimp only; omega) (.slice A1 Y.length c1))⟩, ((hHeld.2.far (p := ⟨bR, 0, none⟩) (by dsimp only; omega) (.slice A0 X.length c0)).far (p := ⟨bR, 1, none⟩) (by dsimp only; omega) (.slice A1 Y.length c1))⟩ (fun hHeld => ?_)
 clear hK K y0 x0 y1 x1
 generalize World.setCell (World.setCell v2 ⟨bR, 0, none⟩ (.slice A0 X.length c0)) ⟨bR, 1, none⟩ (.slice A1 Y.length c1) = v3 at *
 try simp only [Act.put, List.setIfInBounds_toArray, List.set_cons_zero, List.set_cons_succ]
 refine wpAnyH_done (by kernel_rfl) ?_ _
 go_wp2_with fail
 refine bodyPost_ret (resV (fn := Tryz.f51) rfl rfl KR.out) rfl ⟨_, _, _, _, rfl, ⟨R0.out.mono (by have := HS.out; omega), R1.out.mono (by have := HS.out; omega), NE.out⟩, hHeld.1⟩
def MakesVE (W0 : World) (X Y : List Nat) (z : Int) (e : Ending) (w' : World) : Prop := ∃ A c B c', e = .returned (.tuple #[.agg #[.slice A X.length c, .slice B Y.length c'], .int .i64 z]) ∧ Two w' W0.heap.size (.slice A X.length c) (.slice B Y.length c') X Y ∧ Bel W0 w'
theorem resVE {fn : Func} {p q : Tmp} {tmps : Array Value} {w : World} {b : Nat} {v0 v1 : Value} {z : Int} (hf : fn.results = #[.cell p 24, .tmp q]) (hp : tmps.getD p undef = .pointer (some ⟨b, 0, none⟩)) (hq : tmps.getD q undef = .int .i64 z) (h : Blk w b 24 [v0, v1]) :
  (results fn tmps).run Tryz.prog w = .ok (.tuple #[.agg #[v0, v1], .int .i64 z]) w := by
 have y0 := h.cell (i := 0) rfl
 have y1 := h.cell (i := 1) rfl
 have hp2 := hp
 have hq2 := hq
 rw [Array.getD_eq_getD_getElem?] at hp2 hq2
 simp [results, hf, hp2, hq2, go_sem, y0, y1]
theorem two_nil (w : World) (B : Nat) : Two w B (.slice none 0 0) (.slice none 0 0) [] [] := ⟨RowF.nil _ _ _ _ (by decide), RowF.nil _ _ _ _ (by decide), fun b b' o o' n n' c c' e => by cases e⟩
def okP (n m : Nat) : Bool := decide (n = m ∧ 0 ≤ logI n)
def invR (X Y : List Nat) : List Nat × List Nat := if okP X.length Y.length then invN (Nat.log2 X.length) (X, Y) else (X, Y)
def errR (X Y : List Nat) : Int := if okP X.length Y.length then 0 else 2
theorem okP_pow {n m : Nat} (h : okP n m = true) : n = 2 ^ Nat.log2 n ∧ m = n ∧ n ≤ 1024 := by
 unfold okP at h
 have h2 := of_decide_eq_true h
 obtain ⟨h3, h4⟩ := h2
 unfold logI at h4
 split at h4
 ·rename_i q; exact ⟨q.2.1.symm, h3.symm, q.2.2⟩
 ·omega
theorem invN_len {p : Nat} {st : List Nat × List Nat} (h1 : st.1.length = 2 ^ p) (h2 : st.2.length = 2 ^ p) : (invN p st).1.length = 2 ^ p ∧ (invN p st).2.length = 2 ^ p := by
 have := intoN_len (p := p) (st := (st.1, st.2.map fng)) h1 (by rw [List.length_map]; exact h2)
 unfold invN
 simp only [List.length_map]; exact this
theorem invR_len (X Y : List Nat) : (invR X Y).1.length = X.length ∧ (invR X Y).2.length = Y.length := by
 unfold invR
 split
 ·rename_i h
  obtain ⟨h1, h2, _⟩ := okP_pow h
  have := invN_len (p := Nat.log2 X.length) (st := (X, Y)) h1 (by rw [h2]; exact h1)
  rw [← h1] at this; rw [h2]; exact this
 ·exact ⟨rfl, rfl⟩
theorem log_le {n : Nat} (h : n = 2 ^ Nat.log2 n) (hn : n ≤ 128) : Nat.log2 n ≤ 7 := by
 rcases Nat.lt_or_ge 7 (Nat.log2 n) with q | q
 ·have : 2 ^ 8 ≤ 2 ^ Nat.log2 n := Nat.pow_le_pow_right (by decide) q
  omega
 ·exact q
theorem gr2_two {w w' : World} {b b' B c c' n m : Nat} {X' Y' : List Nat} (g : Gr2 b b' w w') (hb : B ≤ b) (hb' : B ≤ b') (ne : b ≠ b') (hX : Fz w' b X') (hY : Fz w' b' Y') (l1 : X'.length = n) (l2 : Y'.length = m) (hc : n ≤ c) (hc' : m ≤ c') (C : c ≤ 9223372036854775807) (C' : c' ≤ 9223372036854775807) :
  Two w' B (.slice (some ⟨b, 0, none⟩) n c) (.slice (some ⟨b', 0, none⟩) m c') X' Y' := by
 subst l1; subst l2
 exact ⟨RowF.of hX hb hc C, RowF.of hY hb' hc' C', fun _ _ _ _ _ _ _ _ e e' _ _ => by cases e; cases e'; exact ne⟩
structure Frm (A A' : Option Addr) (n m : Nat) (w w' : World) : Prop where
 os : w'.os = w.os
 tape : w'.tape = w.tape
 output : w'.output = w.output
 size : w.heap.size ≤ w'.heap.size
 block : ∀ k, k < w.heap.size → (∀ b, 0 < n → A = some ⟨b, 0, none⟩ → k ≠ b) → (∀ b, 0 < m → A' = some ⟨b, 0, none⟩ → k ≠ b) → w'.heap[k]? = w.heap[k]?
theorem frm_bel {w w' : World} (g : Bel w w') (A A' : Option Addr) (n m : Nat) : Frm A A' n m w w' := ⟨g.out.os, g.out.tape, g.out.output, g.out.size, fun k hk _ _ => g.out.block k hk⟩
theorem frm_gr2 {w w' : World} {b b' n m : Nat} (g : Gr2 b b' w w') (hn : 0 < n) (hm : 0 < m) : Frm (some ⟨b, 0, none⟩) (some ⟨b', 0, none⟩) n m w w' :=
 ⟨g.os, g.tape, g.output, g.size, fun k hk h1 h2 => g.block k hk (h1 b hn rfl) (h2 b' hm rfl)⟩
theorem frm_gr {w w' : World} {b' n m : Nat} (A : Option Addr) (g : Gr b' w w') (hm : 0 < m) : Frm A (some ⟨b', 0, none⟩) n m w w' :=
 ⟨g.os, g.tape, g.output, g.size, fun k hk _ h2 => g.block k hk (h2 b' hm rfl)⟩
theorem Frm.blk {A A' : Option Addr} {w w' : World} {B c c' k : Nat} {X Y : List Nat} {t : TypeId} {cs : List Value} (g : Frm A A' X.length Y.length w w') (tw : Two w B (.slice A X.length c) (.slice A' Y.length c') X Y) (K : Blk w k t cs) (hk : ∀ b, B ≤ b → Fz w b X ∨ Fz w b Y → k ≠ b) : Blk w' k t cs :=
 ⟨by
  rw [g.block k K.lt ?_ ?_]; exact K.out
  ·intro b hp e
   obtain ⟨b1, c1, e1, _, _, f, l⟩ := tw.one.at_ hp
   rw [e] at e1; cases e1; exact hk _ l (.inl f)
  ·intro b hp e
   obtain ⟨b1, c1, e1, _, _, f, l⟩ := tw.two.at_ hp
   rw [e] at e1; cases e1; exact hk _ l (.inr f)⟩
theorem Frm.bel {A A' : Option Addr} {W0 w w' : World} {B c c' : Nat} {X Y : List Nat} (g : Frm A A' X.length Y.length w w') (tw : Two w B (.slice A X.length c) (.slice A' Y.length c') X Y) (h : Bel W0 w) (hB : W0.heap.size ≤ B) : Bel W0 w' :=
 ⟨h.out.trans ⟨g.os, g.tape, g.output, g.size, fun k hk => g.block k (Nat.lt_of_lt_of_le hk h.size) (fun b hp e => by
   obtain ⟨b1, c1, e1, _, _, f, l⟩ := tw.one.at_ hp
   rw [e] at e1; cases e1; omega) (fun b hp e => by
   obtain ⟨b1, c1, e1, _, _, f, l⟩ := tw.two.at_ hp
   rw [e] at e1; cases e1; omega)⟩⟩
def IntoSaid (fn : Nat) (R : List Nat → List Nat → List Nat × List Nat) : Prop :=
 ∀ (w : World) (B c c' : Nat) (A A' : Option Addr) (X Y : List Nat), Tab w → Two w B (.slice A X.length c) (.slice A' Y.length c') X Y → X.length ≤ 128 → Y.length ≤ 128 → B ≤ w.heap.size →
  Calls Tryz.prog fn #[.agg #[.slice A X.length c, .slice A' Y.length c']] w fun e w' => e = .returned (.int .i64 (errR X Y)) ∧ Two w' B (.slice A X.length c) (.slice A' Y.length c') (R X Y).1 (R X Y).2 ∧ Frm A A' X.length Y.length w w'
theorem Two.keep {w w' : World} {B b' : Nat} {u0 u1 : Value} {X Y : List Nat} (h : Two w B u0 u1 X Y) (hY : ∀ n c, u1 = .slice (some ⟨b', 0, none⟩) n c → 0 < Y.length → Fz w' b' Y) (g : Gr b' w w') (h1 : ∃ n c, u1 = .slice (some ⟨b', 0, none⟩) n c) (hp : 0 < Y.length) : Two w' B u0 u1 X Y := by
 obtain ⟨n1, c1, e1⟩ := h1
 obtain ⟨b2, c2, e2, l2, C2, f2, B2⟩ := h.two.at_ hp
 rw [e1] at e2; cases e2
 refine ⟨?_, ?_, h.ne⟩
 ·obtain ⟨A, c, e, l, C, d⟩ := h.one.out
  refine ⟨A, c, e, l, C, ?_⟩
  rcases d with d | ⟨b, rfl, f, lb⟩
  ·exact .inl d
  ·by_cases hx : 0 < X.length
   ·exact .inr ⟨b, rfl, gr_fz g f (h.ne b b' 0 0 _ _ _ _ e e1 hx hp), lb⟩
   ·exact .inl (by omega)
 ·subst e1
  exact ⟨_, _, rfl, l2, C2, .inr ⟨b', rfl, hY _ _ rfl hp, B2⟩⟩
theorem invInto : IntoSaid 20 invR := by
 intro w B c c' A A' X Y T tw hX hY hB
 by_cases h : okP X.length Y.length = true
 ·obtain ⟨h1, h2, h3⟩ := okP_pow h
  have hpos : 0 < X.length := by rw [h1]; exact Nat.two_pow_pos _
  obtain ⟨b, c1, e1, l1, C1, f1, B1⟩ := tw.one.at_ hpos
  obtain ⟨b', c2, e2, l2, C2, f2, B2⟩ := tw.two.at_ (by omega)
  have ne := tw.ne b b' 0 0 _ _ _ _ e1 e2 hpos (by omega)
  cases e1; cases e2
  have hc := dInvInto (p := Nat.log2 X.length) (N := X.length) (c := c) (c' := c') w T f1 f2 ne h1 rfl h2 (log_le h1 hX) l1 (by omega) C1 C2
  rw [h2]
  refine hc.mono ?_
  rintro e w' ⟨rfl, g1, g2, G⟩
  have hl := invN_len (p := Nat.log2 X.length) (st := (X, Y)) h1 (by rw [h2]; exact h1)
  have hR : invR X Y = invN (Nat.log2 X.length) (X, Y) := by unfold invR; rw [if_pos h]
  refine ⟨by unfold errR; rw [if_pos h], ?_, frm_gr2 G hpos (by omega)⟩
  rw [hR]
  exact gr2_two G B1 B2 ne g1 g2 (by rw [hl.1, ← h1]) (by rw [hl.2, ← h1]) l1 (by omega) C1 C2
 ·have hbad : Bad X.length Y.length := fun q => h (decide_eq_true q)
  have hR : invR X Y = (X, Y) := by unfold invR; rw [if_neg h]
  have hE : errR X Y = 2 := by unfold errR; rw [if_neg h]
  rw [hR, hE]
  by_cases hy : 0 < Y.length
  ·obtain ⟨b', c2, e2, l2, C2, f2, B2⟩ := tw.two.at_ hy
   cases e2
   refine (dInvBad1 (n := X.length) (m := Y.length) (A := A) (c := c) (c' := c') w T f2 rfl hy (by omega) (by omega) hbad).mono ?_
   rintro e w' ⟨rfl, g2, G⟩
   exact ⟨rfl, Two.keep tw (fun _ _ _ _ => g2) G ⟨_, _, rfl⟩ hy, frm_gr _ G hy⟩
  ·have h0 : Y.length = 0 := by omega
   obtain rfl := List.length_eq_zero_iff.1 h0
   refine (dInvBad0 (n := X.length) (A := A) (B := A') (c := c) (c' := c') w T (by omega) hbad).mono ?_
   rintro e w' ⟨rfl, g⟩
   exact ⟨rfl, tw.bel g, frm_bel g _ _ _ _⟩
end Pg
namespace Ph
open Ieee Go Go.RowKit Go.Proofs Go.Proofs.YtnbdoidccacdnaaGreatDoor Ow Dt Gp I0 U0 W0 S4 S6 P0 M0 M1 M2 M3 P4 P5 P6 P8 Pa Pb W4 W5 W1 W2 Pc Pe Pg
attribute [local go_sem ↓] Go.wp_at_zero Go.wp_at_succ
theorem vec_ne {w : World} {k b : Nat} {cs : List Value} {X : List Nat} (K : Blk w k 24 cs) (h : Fz w b X) : k ≠ b := by
 rintro rfl
 obtain ⟨ds, h1, _⟩ := h.out
 have h2 := h1.out
 rw [K.out] at h2
 simp at h2
def ifR (X Y : List Nat) : List Nat × List Nat := if okP X.length Y.length then invR X Y else ([], [])
theorem dIfft {A B : Option Addr} {c c' : Nat} {X Y : List Nat} (w : World) (T : Tab w) (hx : In w (.slice A X.length c) X) (hy : In w (.slice B Y.length c') Y) (hl : X.length ≤ 128) (hl' : Y.length ≤ 128) :
  Calls Tryz.prog 17 #[.agg #[.slice A X.length c, .slice B Y.length c']] w (MakesVE w (ifR X Y).1 (ifR X Y).2 (errR X Y)) := by
 have KV := Ho.mk ((Blk.new w [.slice A X.length c, .slice B Y.length c'] 24).old (.cells #[.slice none 0 0, .slice none 0 0] 24))
 have KR := Ho.mk (Blk.new (w.alloc (.cells #[.slice A X.length c, .slice B Y.length c'] 24)) [.slice none 0 0, .slice none 0 0] 24)
 have g0 := Ho.mk (((Bel.refl w).alloc (.cells #[.slice A X.length c, .slice B Y.length c'] 24)).alloc (.cells #[.slice none 0 0, .slice none 0 0] 24))
 have TT := Ho.mk T
 rw [World.size_alloc] at KR
 clear T
 go_enter Tryz.func17, Tryz.ntmps17
 go_upto_region 1 with fail
 have hs : w.heap.size + 1 < ((w.alloc (.cells #[.slice A X.length c, .slice B Y.length c'] 24)).alloc (.cells #[.slice none 0 0, .slice none 0 0] 24)).heap.size := by simp only [World.size_alloc]; omega
 generalize (w.alloc (.cells #[.slice A X.length c, .slice B Y.length c'] 24)).alloc (.cells #[.slice none 0 0, .slice none 0 0] 24) = W at *
 obtain ⟨bR, hbR⟩ : ∃ bR, bR = w.heap.size + 1 := ⟨_, rfl⟩
 have le_bR : w.heap.size ≤ bR := by omega
 have lt_V : w.heap.size < bR := by omega
 rw [← hbR] at KR hs ⊢
 clear hbR
 have OW := Ho.mk (dOwn W (hx.bel g0.out) (hy.bel g0.out) (by omega) (by omega))
 have y0 := KV.out.cell (i := 0) rfl
 have y1 := KV.out.cell (i := 1) rfl
 clear hx hy
 go_wp2_with fail
 (with_reducible refine OW.out.mono ?_); rintro e w1 ⟨A1, c1, B1, d1, rfl, tw, b1⟩
 have TW := Ho.mk (tw.bel ((Bel.refl w1).alloc (.cells #[.slice A1 X.length c1, .slice B1 Y.length d1] 24)))
 have K4 := Ho.mk (Blk.new w1 [.slice A1 X.length c1, .slice B1 Y.length d1] 24)
 have KR := Ho.mk ((KR.out.bel b1).old (.cells #[.slice A1 X.length c1, .slice B1 Y.length d1] 24))
 have GB := Ho.mk ((g0.out.trans b1).alloc (.cells #[.slice A1 X.length c1, .slice B1 Y.length d1] 24))
 have sz1 := b1.size
 have SZW := Ho.mk (show W.heap.size ≤ (w1.alloc (.cells #[.slice A1 X.length c1, .slice B1 Y.length d1] 24)).heap.size by rw [World.size_alloc]; omega)
 clear tw b1 KV y0 y1 OW g0
 go_upto_region 2 with fail
 generalize w1.alloc (.cells #[.slice A1 X.length c1, .slice B1 Y.length d1] 24) = w2 at *
 have y0 := K4.out.cell (i := 0) rfl
 have y1 := K4.out.cell (i := 1) rfl
 have sz2 := GB.out.size
 have IN := Ho.mk (invInto w2 W.heap.size c1 d1 A1 B1 X Y (TT.out.bel GB.out) TW.out hl hl' SZW.out)
 go_wp2_with fail
 (with_reducible refine IN.out.mono ?_); rintro e w3 ⟨rfl, t3, F3⟩
 clear IN y0 y1
 have KR := Ho.mk (F3.blk TW.out KR.out (fun b _ hf => by rcases hf with hf | hf <;> exact vec_ne KR.out hf))
 have K4 := Ho.mk (F3.blk TW.out K4.out (fun b _ hf => by rcases hf with hf | hf <;> exact vec_ne K4.out hf))
 have BB := Ho.mk (F3.bel TW.out GB.out (by omega))
 have T3 := Ho.mk t3
 have HF := Ho.mk F3
 clear t3 F3
 by_cases hok : okP X.length Y.length = true
 ·have he : errR X Y = 0 := by unfold errR; rw [if_pos hok]
  have HL := Ho.mk (invR_len X Y)
  have h4 := K4.out.cell (i := 0) rfl
  have h5 := K4.out.cell (i := 1) rfl
  have x0 := KR.out.cell (i := 0) rfl
  have x1 := KR.out.cell (i := 1) rfl
  have z0 := KR.out.free 0
  have z1 := KR.out.free 1
  rw [he]
  go_wp2
  refine bodyPost_ret (resVE (fn := Tryz.f17) rfl rfl rfl ((KR.out.set 0 _).set 1 _)) rfl ?_
  have e : ifR X Y = invR X Y := by unfold ifR; rw [if_pos hok]
  unfold MakesVE
  rw [e, he, HL.out.1, HL.out.2]
  exact ⟨_, _, _, _, rfl, (((T3.out.mono (B' := bR + 1) (by omega)).far (p := ⟨bR, 0, none⟩) (by dsimp only; omega) _).far (p := ⟨bR, 1, none⟩) (by dsimp only; omega) _).mono (by omega), ⟨(BB.out.out.setCell (p := ⟨bR, 0, none⟩) (by dsimp only; omega) _).setCell (p := ⟨bR, 1, none⟩) (by dsimp only; omega) _⟩⟩
 ·have he : errR X Y = 2 := by unfold errR; rw [if_neg hok]
  have x0 := KR.out.cell (i := 0) rfl
  have x1 := KR.out.cell (i := 1) rfl
  have z0 := KR.out.free 0
  have z1 := KR.out.free 1
  rw [he]
  go_wp2
  refine bodyPost_ret (resVE (fn := Tryz.f17) rfl rfl rfl ((KR.out.set 0 _).set 1 _)) rfl ?_
  have e : ifR X Y = ([], []) := by unfold ifR; rw [if_neg hok]
  unfold MakesVE
  rw [e, he]
  exact ⟨none, 0, none, 0, rfl, two_nil _ _, ⟨(BB.out.out.setCell (p := ⟨bR, 0, none⟩) (by dsimp only; omega) _).setCell (p := ⟨bR, 1, none⟩) (by dsimp only; omega) _⟩⟩
end Ph
end Go.Proofs.YtnbdoidccacdnaaGreatDoor
