/-
  Joined, of what this claim leans on: I3, I4, J1, J2, J3, C0, C1, C2, T1, C3, I6, C4, I7.
-/
import Derived.Deep.RegionHeld3
import Derived.Deep.DrawnRows
import Derived.RegionIn
import Derived.ArgAppend
import Derived.RangeFuncLeaves
import Derived.Test.YtalbgklfhabnkaaGreatDoorJIrfftScale2
set_option linter.unusedVariables false
set_option linter.unusedSimpArgs false
set_option maxRecDepth 100000
set_option maxHeartbeats 16000000
namespace Go.Proofs.YtalbgklfhabnkaaGreatDoor
namespace I3
open Go Go.RowKit Go.Proofs.YtalbgklfhabnkaaGreatDoor Ow Pl Dp Dt D3 F1 T0 I0 I1 I2
attribute [local go_sem ↓] Go.wp_at_zero Go.wp_at_succ
theorem shift1 {A0 : Option Addr} {c0 : Nat} {v : Int} {L0 U0 : Nat} {bk : Nat} {up : Bool} {k : Int} {N : Nat} (w : World) (T : Tab w) (hc : Blk w bk 3 [.int .i64 k]) (p0 : Dv w A0 c0 v L0 U0) (hL0 : L0 ≤ 3000) (hU0 : U0 ≤ 3000) (hN : N ≤ 3000) (hk0 : -(N : Int) ≤ k) (hk1 : k ≤ N) :
  Calls Tryz.prog 219 #[.agg #[.bool (dneg v), .slice A0 (digs (dm v)).length c0, .int .i64 (de v)], .bool up, .pointer (some ⟨bk, 0, none⟩)] w (MakesD w (shiftD v k) (L0 + N) (U0 + N)) := by
 have TT := Ho.mk T
 clear T
 have ycCAP := fun o0 o1 => (hc.bel (((Bel.refl w).alloc o0).alloc o1)).cell (i := 0) rfl
 go_enter Tryz.func219, Tryz.ntmps219
 go_wp2_with fail
 have KB3 := Ho.mk (Blk.new w [.bool (dneg v), .slice A0 (digs (dm v)).length c0, .int .i64 (de v)] 37)
 have g0 := (Bel.refl w).alloc (.cells #[.bool (dneg v), .slice A0 (digs (dm v)).length c0, .int .i64 (de v)] 37)
 have hS : (w.alloc (.cells #[.bool (dneg v), .slice A0 (digs (dm v)).length c0, .int .i64 (de v)] 37)).heap.size = w.heap.size + 1 := by simp only [World.size_alloc]
 have hZ : (w.alloc (.cells #[.bool (dneg v), .slice A0 (digs (dm v)).length c0, .int .i64 (de v)] 37)) = (w.alloc (.cells #[.bool (dneg v), .slice A0 (digs (dm v)).length c0, .int .i64 (de v)] 37)) := rfl
 generalize (w.alloc (.cells #[.bool (dneg v), .slice A0 (digs (dm v)).length c0, .int .i64 (de v)] 37)) = w0 at *
 clear hZ
 clear ycCAP
 have KCAP := Ho.mk (hc.bel g0)
 have KR := Ho.mk (Blk.new w0 [.bool false, .slice none 0 0, .int .i64 0] 37)
 rw [hS] at KR
 have KB3_0_1 := Ho.mk ((KB3.out.bel ((Bel.refl _).alloc (.cells #[.bool false, .slice none 0 0, .int .i64 0] 37))))
 obtain ⟨yB3_0_1_0, yB3_0_1_1, yB3_0_1_2⟩ := KB3_0_1.out.c3
 have KCAP_0_1 := Ho.mk ((KCAP.out.bel ((Bel.refl _).alloc (.cells #[.bool false, .slice none 0 0, .int .i64 0] 37))))
 have yCAP_0_1_0 := KCAP_0_1.out.cell (i := 0) rfl
 (with_reducible refine (F1.dShift (TT.out.bel (g0.trans ((Bel.refl _).alloc (.cells #[.bool false, .slice none 0 0, .int .i64 0] 37)))) ((p0.bel g0).bel ((Bel.refl _).alloc (.cells #[.bool false, .slice none 0 0, .int .i64 0] 37))) k N (by omega) (by omega) (by omega) (by omega)).mono ?_); rintro e w1 ⟨A1, c1, rfl, n1, b1⟩
 clear yB3_0_1_0 yB3_0_1_1 yB3_0_1_2 yCAP_0_1_0
 have KRz := Ho.mk ((KR.out.bel ((Bel.refl _).trans b1)))
 have yr0 := KRz.out.cell (i := 0) rfl
 have zr0 := KRz.out.free 0
 have yr1 := KRz.out.cell (i := 1) rfl
 have zr1 := KRz.out.free 1
 have yr2 := KRz.out.cell (i := 2) rfl
 have zr2 := KRz.out.free 2
 have BZ := Ho.mk (g0.trans (((Bel.refl _).alloc (.cells #[.bool false, .slice none 0 0, .int .i64 0] 37)).trans b1))
 have HZ0 := Ho.mk n1
 go_wp2
 exact I0.gives_endD (fn := Tryz.f219) rfl rfl BZ.out (by omega) KRz.out (HZ0.out.mono (by omega) (by omega))
theorem cut1 {A0 : Option Addr} {c0 : Nat} {v : Int} {L0 U0 : Nat} {bk : Nat} {up : Bool} {n : Nat} {nn r : Int} {L U : Nat} (w : World) (T : Tab w) (hc : Blk w bk 3 [.int .i64 nn]) (p0 : Dv w A0 c0 v L0 U0) (hL0 : L0 ≤ 3000) (hU0 : U0 ≤ 3000) (hn : n ≤ 3000) (hnn : (n : Int) = nn) (hr : cutV v n up = r) (hW : Wd r L U) :
  Calls Tryz.prog 220 #[.agg #[.bool (dneg v), .slice A0 (digs (dm v)).length c0, .int .i64 (de v)], .bool up, .pointer (some ⟨bk, 0, none⟩)] w (MakesD w r L U) := by
 have TT := Ho.mk T
 clear T
 have ycCAP := fun o0 o1 => (hc.bel (((Bel.refl w).alloc o0).alloc o1)).cell (i := 0) rfl
 go_enter Tryz.func220, Tryz.ntmps220
 go_wp2_with fail
 have KB3 := Ho.mk (Blk.new w [.bool (dneg v), .slice A0 (digs (dm v)).length c0, .int .i64 (de v)] 37)
 have g0 := (Bel.refl w).alloc (.cells #[.bool (dneg v), .slice A0 (digs (dm v)).length c0, .int .i64 (de v)] 37)
 have hS : (w.alloc (.cells #[.bool (dneg v), .slice A0 (digs (dm v)).length c0, .int .i64 (de v)] 37)).heap.size = w.heap.size + 1 := by simp only [World.size_alloc]
 have hZ : (w.alloc (.cells #[.bool (dneg v), .slice A0 (digs (dm v)).length c0, .int .i64 (de v)] 37)) = (w.alloc (.cells #[.bool (dneg v), .slice A0 (digs (dm v)).length c0, .int .i64 (de v)] 37)) := rfl
 generalize (w.alloc (.cells #[.bool (dneg v), .slice A0 (digs (dm v)).length c0, .int .i64 (de v)] 37)) = w0 at *
 clear hZ
 clear ycCAP
 have KCAP := Ho.mk (hc.bel g0)
 have KR := Ho.mk (Blk.new w0 [.bool false, .slice none 0 0, .int .i64 0] 37)
 rw [hS] at KR
 have KB3_0_1 := Ho.mk ((KB3.out.bel ((Bel.refl _).alloc (.cells #[.bool false, .slice none 0 0, .int .i64 0] 37))))
 obtain ⟨yB3_0_1_0, yB3_0_1_1, yB3_0_1_2⟩ := KB3_0_1.out.c3
 have KCAP_0_1 := Ho.mk ((KCAP.out.bel ((Bel.refl _).alloc (.cells #[.bool false, .slice none 0 0, .int .i64 0] 37))))
 have yCAP_0_1_0 := KCAP_0_1.out.cell (i := 0) rfl
 (with_reducible refine (dCutE (TT.out.bel (g0.trans ((Bel.refl _).alloc (.cells #[.bool false, .slice none 0 0, .int .i64 0] 37)))) ((p0.bel g0).bel ((Bel.refl _).alloc (.cells #[.bool false, .slice none 0 0, .int .i64 0] 37))) (by omega) (by omega) hnn hr hW).mono ?_); rintro e w1 ⟨A1, c1, rfl, n1, b1⟩
 clear yB3_0_1_0 yB3_0_1_1 yB3_0_1_2 yCAP_0_1_0
 have KRz := Ho.mk ((KR.out.bel ((Bel.refl _).trans b1)))
 have yr0 := KRz.out.cell (i := 0) rfl
 have zr0 := KRz.out.free 0
 have yr1 := KRz.out.cell (i := 1) rfl
 have zr1 := KRz.out.free 1
 have yr2 := KRz.out.cell (i := 2) rfl
 have zr2 := KRz.out.free 2
 have BZ := Ho.mk (g0.trans (((Bel.refl _).alloc (.cells #[.bool false, .slice none 0 0, .int .i64 0] 37)).trans b1))
 have HZ0 := Ho.mk n1
 go_wp2
 exact I0.gives_endD (fn := Tryz.f220) rfl rfl BZ.out (by omega) KRz.out (HZ0.out.mono (by omega) (by omega))
theorem root1 {A0 : Option Addr} {c0 : Nat} {v : Int} {L0 U0 : Nat} {bk : Nat} {up : Bool} {n : Nat} {nn r : Int} {L U : Nat} (w : World) (T : Tab w) (hc : Blk w bk 3 [.int .i64 nn]) (p0 : Dv w A0 c0 v L0 U0) (hL0 : L0 ≤ 3000) (hU0 : U0 ≤ 3000) (hn : n ≤ 3000) (hnn : (n : Int) = nn) (hr : rootV v n up = r) (hW : Wd r L U) :
  Calls Tryz.prog 217 #[.agg #[.bool (dneg v), .slice A0 (digs (dm v)).length c0, .int .i64 (de v)], .bool up, .pointer (some ⟨bk, 0, none⟩)] w (MakesD w r L U) := by
 have TT := Ho.mk T
 clear T
 have ycCAP := fun o0 o1 => (hc.bel (((Bel.refl w).alloc o0).alloc o1)).cell (i := 0) rfl
 go_enter Tryz.func217, Tryz.ntmps217
 go_wp2_with fail
 have KB3 := Ho.mk (Blk.new w [.bool (dneg v), .slice A0 (digs (dm v)).length c0, .int .i64 (de v)] 37)
 have g0 := (Bel.refl w).alloc (.cells #[.bool (dneg v), .slice A0 (digs (dm v)).length c0, .int .i64 (de v)] 37)
 have hS : (w.alloc (.cells #[.bool (dneg v), .slice A0 (digs (dm v)).length c0, .int .i64 (de v)] 37)).heap.size = w.heap.size + 1 := by simp only [World.size_alloc]
 have hZ : (w.alloc (.cells #[.bool (dneg v), .slice A0 (digs (dm v)).length c0, .int .i64 (de v)] 37)) = (w.alloc (.cells #[.bool (dneg v), .slice A0 (digs (dm v)).length c0, .int .i64 (de v)] 37)) := rfl
 generalize (w.alloc (.cells #[.bool (dneg v), .slice A0 (digs (dm v)).length c0, .int .i64 (de v)] 37)) = w0 at *
 clear hZ
 clear ycCAP
 have KCAP := Ho.mk (hc.bel g0)
 have KR := Ho.mk (Blk.new w0 [.bool false, .slice none 0 0, .int .i64 0] 37)
 rw [hS] at KR
 have KB3_0_1 := Ho.mk ((KB3.out.bel ((Bel.refl _).alloc (.cells #[.bool false, .slice none 0 0, .int .i64 0] 37))))
 obtain ⟨yB3_0_1_0, yB3_0_1_1, yB3_0_1_2⟩ := KB3_0_1.out.c3
 have KCAP_0_1 := Ho.mk ((KCAP.out.bel ((Bel.refl _).alloc (.cells #[.bool false, .slice none 0 0, .int .i64 0] 37))))
 have yCAP_0_1_0 := KCAP_0_1.out.cell (i := 0) rfl
 (with_reducible refine (dRootV _ (TT.out.bel (g0.trans ((Bel.refl _).alloc (.cells #[.bool false, .slice none 0 0, .int .i64 0] 37)))) ((p0.bel g0).bel ((Bel.refl _).alloc (.cells #[.bool false, .slice none 0 0, .int .i64 0] 37))) (by omega) (by omega) hnn hn hr hW).mono ?_); rintro e w1 ⟨A1, c1, rfl, n1, b1⟩
 clear yB3_0_1_0 yB3_0_1_1 yB3_0_1_2 yCAP_0_1_0
 have KRz := Ho.mk ((KR.out.bel ((Bel.refl _).trans b1)))
 have yr0 := KRz.out.cell (i := 0) rfl
 have zr0 := KRz.out.free 0
 have yr1 := KRz.out.cell (i := 1) rfl
 have zr1 := KRz.out.free 1
 have yr2 := KRz.out.cell (i := 2) rfl
 have zr2 := KRz.out.free 2
 have BZ := Ho.mk (g0.trans (((Bel.refl _).alloc (.cells #[.bool false, .slice none 0 0, .int .i64 0] 37)).trans b1))
 have HZ0 := Ho.mk n1
 go_wp2
 exact I0.gives_endD (fn := Tryz.f217) rfl rfl BZ.out (by omega) KRz.out (HZ0.out.mono (by omega) (by omega))
theorem endsShift {A0 B0 : Option Addr} {c0 d0 : Nat} {a : Iv} {L0 U0 : Nat} {bk : Nat} {k : Int} {N : Nat} (w : World) (T : Tab w) (hc : Blk w bk 3 [.int .i64 k]) (p0l : Dv w A0 c0 a.1 L0 U0) (p0h : Dv w B0 d0 a.2 L0 U0) (hL0 : L0 ≤ 3000) (hU0 : U0 ≤ 3000) (hN : N ≤ 3000) (hk0 : -(N : Int) ≤ k) (hk1 : k ≤ N) :
  Calls Tryz.prog 216 #[.agg #[.bool (dneg a.1), .slice A0 (digs (dm a.1)).length c0, .int .i64 (de a.1), .bool (dneg a.2), .slice B0 (digs (dm a.2)).length d0, .int .i64 (de a.2)], .func (.func 219) #[] #[.pointer (some ⟨bk, 0, none⟩)]] w (MakesI w (ishift a k) (L0 + N) (U0 + N)) := by
 have TT := Ho.mk T
 clear T
 go_enter Tryz.func216, Tryz.ntmps216
 go_wp2_with fail
 have KB2 := Ho.mk (Blk.new w [.bool (dneg a.1), .slice A0 (digs (dm a.1)).length c0, .int .i64 (de a.1), .bool (dneg a.2), .slice B0 (digs (dm a.2)).length d0, .int .i64 (de a.2)] 42)
 have g0 := (Bel.refl w).alloc (.cells #[.bool (dneg a.1), .slice A0 (digs (dm a.1)).length c0, .int .i64 (de a.1), .bool (dneg a.2), .slice B0 (digs (dm a.2)).length d0, .int .i64 (de a.2)] 42)
 have hS : (w.alloc (.cells #[.bool (dneg a.1), .slice A0 (digs (dm a.1)).length c0, .int .i64 (de a.1), .bool (dneg a.2), .slice B0 (digs (dm a.2)).length d0, .int .i64 (de a.2)] 42)).heap.size = w.heap.size + 1 := by simp only [World.size_alloc]
 have hZ : (w.alloc (.cells #[.bool (dneg a.1), .slice A0 (digs (dm a.1)).length c0, .int .i64 (de a.1), .bool (dneg a.2), .slice B0 (digs (dm a.2)).length d0, .int .i64 (de a.2)] 42)) = (w.alloc (.cells #[.bool (dneg a.1), .slice A0 (digs (dm a.1)).length c0, .int .i64 (de a.1), .bool (dneg a.2), .slice B0 (digs (dm a.2)).length d0, .int .i64 (de a.2)] 42)) := rfl
 generalize (w.alloc (.cells #[.bool (dneg a.1), .slice A0 (digs (dm a.1)).length c0, .int .i64 (de a.1), .bool (dneg a.2), .slice B0 (digs (dm a.2)).length d0, .int .i64 (de a.2)] 42)) = w0 at *
 clear hZ
 have KR := Ho.mk (Blk.new w0 [.bool false, .slice none 0 0, .int .i64 0, .bool false, .slice none 0 0, .int .i64 0] 42)
 rw [hS] at KR
 have KCAP := Ho.mk (hc.bel g0)
 have KB2_r1 := Ho.mk (KB2.out)
 obtain ⟨yB2_r1_0, yB2_r1_1, yB2_r1_2, yB2_r1_3, yB2_r1_4, yB2_r1_5⟩ := KB2_r1.out.c6
 refine wp_region_held_drew (S := fun w' => Bel w0 w') (by kernel_rfl) ((Bel.refl _).alloc (.cells #[.bool false, .slice none 0 0, .int .i64 0, .bool false, .slice none 0 0, .int .i64 0] 42)).drew (fun hHeld => ?_)
 (try dsimp only at hHeld)
 refine rt (i := 0) hHeld ?_
 refine rt (i := 1) hHeld ?_
 refine rl (i := 2) (v := ?_) hHeld (fun w hSw => ?_) ?_
 rotate_left
 ·(have z0 := hSw.cell yB2_r1_0; have z1 := hSw.cell yB2_r1_1; have z2 := hSw.cell yB2_r1_2; go_simp; try (with_reducible rfl))
 refine rt (i := 4) hHeld ?_
 refine rt (i := 5) hHeld ?_
 refine rl (i := 6) (v := ?_) hHeld (fun w hSw => ?_) ?_
 rotate_left
 ·(have z3 := hSw.cell yB2_r1_3; have z4 := hSw.cell yB2_r1_4; have z5 := hSw.cell yB2_r1_5; go_simp; try (with_reducible rfl))
 try simp only [Act.put, Ow.zS, Ow.zC, Ow.zD]
 refine rc (i := 3) (fun K hK => ?_)
 go_simp
 go_at_call 219
 (with_reducible refine (shift1 _ (TT.out.bel (g0.trans (((Bel.refl _).alloc (.cells #[.bool false, .slice none 0 0, .int .i64 0, .bool false, .slice none 0 0, .int .i64 0] 42)).drew))) (KCAP.out.bel (((Bel.refl _).alloc (.cells #[.bool false, .slice none 0 0, .int .i64 0, .bool false, .slice none 0 0, .int .i64 0] 42)).drew)) ((p0l.bel g0).bel (((Bel.refl _).alloc (.cells #[.bool false, .slice none 0 0, .int .i64 0, .bool false, .slice none 0 0, .int .i64 0] 42)).drew)) (by omega) (by omega) (by omega) (by omega) (by omega)).mono ?_); rintro e w1 ⟨A1, c1, rfl, n1, b1⟩
 try go_wp2_with fail
 refine hK.out _ _ (Bel.trans hHeld b1) (fun hHeld => ?_)
 clear hK K
 try simp only [Act.put, Ow.zS, Ow.zC, Ow.zD]
 refine rc (i := 7) (fun K hK => ?_)
 go_simp
 go_at_call 219
 (with_reducible refine (shift1 _ (TT.out.bel (g0.trans ((((Bel.refl _).alloc (.cells #[.bool false, .slice none 0 0, .int .i64 0, .bool false, .slice none 0 0, .int .i64 0] 42)).drew).trans b1))) (KCAP.out.bel ((((Bel.refl _).alloc (.cells #[.bool false, .slice none 0 0, .int .i64 0, .bool false, .slice none 0 0, .int .i64 0] 42)).drew).trans b1)) ((p0h.bel g0).bel ((((Bel.refl _).alloc (.cells #[.bool false, .slice none 0 0, .int .i64 0, .bool false, .slice none 0 0, .int .i64 0] 42)).drew).trans b1)) (by omega) (by omega) (by omega) (by omega) (by omega)).mono ?_); rintro e w2 ⟨A2, c2, rfl, n2, b2⟩
 try go_wp2_with fail
 refine hK.out _ _ (Bel.trans hHeld b2) (fun hHeld => ?_)
 clear hK K
 refine rt (i := 8) hHeld ?_
 try simp only [Act.put, Ow.zS, Ow.zC, Ow.zD]
 refine rc (i := 9) (fun K hK => ?_)
 have KRz := Ho.mk ((KR.out.bel ((((Bel.refl _).drew).trans b1).trans b2)))
 have yr0 := KRz.out.cell (i := 0) rfl
 have zr0 := KRz.out.free 0
 have yr1 := KRz.out.cell (i := 1) rfl
 have zr1 := KRz.out.free 1
 have yr2 := KRz.out.cell (i := 2) rfl
 have zr2 := KRz.out.free 2
 have yr3 := KRz.out.cell (i := 3) rfl
 have zr3 := KRz.out.free 3
 have yr4 := KRz.out.cell (i := 4) rfl
 have zr4 := KRz.out.free 4
 have yr5 := KRz.out.cell (i := 5) rfl
 have zr5 := KRz.out.free 5
 go_simp
 refine hK.out _ _ (I0.bel_set6 hHeld (Nat.le_of_eq hS) _ _ _ _ _ _) (fun hHeld => ?_)
 clear hK K
 try simp only [Act.put, Ow.zS, Ow.zC, Ow.zD]
 refine wpAnyH_done (by kernel_rfl) ?_ _
 have BZ := Ho.mk (g0.trans (((((Bel.refl _).alloc (.cells #[.bool false, .slice none 0 0, .int .i64 0, .bool false, .slice none 0 0, .int .i64 0] 42)).drew).trans b1).trans b2))
 have HZ0 := Ho.mk (n1.bel ((Bel.refl _).trans b2))
 have HZ1 := Ho.mk n2
 go_wp2
 exact I0.gives_endI (fn := Tryz.f216) (i := ((shiftD a.1 k), (shiftD a.2 k))) rfl rfl BZ.out (by omega) KRz.out (HZ0.out.mono (by omega) (by omega)) (HZ1.out.mono (by omega) (by omega))
theorem endsCut {A0 B0 : Option Addr} {c0 d0 : Nat} {a : Iv} {L0 U0 : Nat} {bk : Nat} {n : Nat} {nn : Int} {i : Iv} {L U : Nat} (w : World) (T : Tab w) (hc : Blk w bk 3 [.int .i64 nn]) (p0l : Dv w A0 c0 a.1 L0 U0) (p0h : Dv w B0 d0 a.2 L0 U0) (hL0 : L0 ≤ 3000) (hU0 : U0 ≤ 3000) (hn : n ≤ 3000) (hnn : (n : Int) = nn) (h1 : cutV a.1 n false = i.1) (z1 : Wd i.1 L U) (h2 : cutV a.2 n true = i.2) (z2 : Wd i.2 L U) :
  Calls Tryz.prog 216 #[.agg #[.bool (dneg a.1), .slice A0 (digs (dm a.1)).length c0, .int .i64 (de a.1), .bool (dneg a.2), .slice B0 (digs (dm a.2)).length d0, .int .i64 (de a.2)], .func (.func 220) #[] #[.pointer (some ⟨bk, 0, none⟩)]] w (MakesI w i L U) := by
 have TT := Ho.mk T
 clear T
 go_enter Tryz.func216, Tryz.ntmps216
 go_wp2_with fail
 have KB2 := Ho.mk (Blk.new w [.bool (dneg a.1), .slice A0 (digs (dm a.1)).length c0, .int .i64 (de a.1), .bool (dneg a.2), .slice B0 (digs (dm a.2)).length d0, .int .i64 (de a.2)] 42)
 have g0 := (Bel.refl w).alloc (.cells #[.bool (dneg a.1), .slice A0 (digs (dm a.1)).length c0, .int .i64 (de a.1), .bool (dneg a.2), .slice B0 (digs (dm a.2)).length d0, .int .i64 (de a.2)] 42)
 have hS : (w.alloc (.cells #[.bool (dneg a.1), .slice A0 (digs (dm a.1)).length c0, .int .i64 (de a.1), .bool (dneg a.2), .slice B0 (digs (dm a.2)).length d0, .int .i64 (de a.2)] 42)).heap.size = w.heap.size + 1 := by simp only [World.size_alloc]
 have hZ : (w.alloc (.cells #[.bool (dneg a.1), .slice A0 (digs (dm a.1)).length c0, .int .i64 (de a.1), .bool (dneg a.2), .slice B0 (digs (dm a.2)).length d0, .int .i64 (de a.2)] 42)) = (w.alloc (.cells #[.bool (dneg a.1), .slice A0 (digs (dm a.1)).length c0, .int .i64 (de a.1), .bool (dneg a.2), .slice B0 (digs (dm a.2)).length d0, .int .i64 (de a.2)] 42)) := rfl
 generalize (w.alloc (.cells #[.bool (dneg a.1), .slice A0 (digs (dm a.1)).length c0, .int .i64 (de a.1), .bool (dneg a.2), .slice B0 (digs (dm a.2)).length d0, .int .i64 (de a.2)] 42)) = w0 at *
 clear hZ
 have KR := Ho.mk (Blk.new w0 [.bool false, .slice none 0 0, .int .i64 0, .bool false, .slice none 0 0, .int .i64 0] 42)
 rw [hS] at KR
 have KCAP := Ho.mk (hc.bel g0)
 have KB2_r1 := Ho.mk (KB2.out)
 obtain ⟨yB2_r1_0, yB2_r1_1, yB2_r1_2, yB2_r1_3, yB2_r1_4, yB2_r1_5⟩ := KB2_r1.out.c6
 refine wp_region_held_drew (S := fun w' => Bel w0 w') (by kernel_rfl) ((Bel.refl _).alloc (.cells #[.bool false, .slice none 0 0, .int .i64 0, .bool false, .slice none 0 0, .int .i64 0] 42)).drew (fun hHeld => ?_)
 (try dsimp only at hHeld)
 refine rt (i := 0) hHeld ?_
 refine rt (i := 1) hHeld ?_
 refine rl (i := 2) (v := ?_) hHeld (fun w hSw => ?_) ?_
 rotate_left
 ·(have z0 := hSw.cell yB2_r1_0; have z1 := hSw.cell yB2_r1_1; have z2 := hSw.cell yB2_r1_2; go_simp; try (with_reducible rfl))
 refine rt (i := 4) hHeld ?_
 refine rt (i := 5) hHeld ?_
 refine rl (i := 6) (v := ?_) hHeld (fun w hSw => ?_) ?_
 rotate_left
 ·(have z3 := hSw.cell yB2_r1_3; have z4 := hSw.cell yB2_r1_4; have z5 := hSw.cell yB2_r1_5; go_simp; try (with_reducible rfl))
 try simp only [Act.put, Ow.zS, Ow.zC, Ow.zD]
 refine rc (i := 3) (fun K hK => ?_)
 go_simp
 go_at_call 220
 (with_reducible refine (cut1 _ (TT.out.bel (g0.trans (((Bel.refl _).alloc (.cells #[.bool false, .slice none 0 0, .int .i64 0, .bool false, .slice none 0 0, .int .i64 0] 42)).drew))) (KCAP.out.bel (((Bel.refl _).alloc (.cells #[.bool false, .slice none 0 0, .int .i64 0, .bool false, .slice none 0 0, .int .i64 0] 42)).drew)) ((p0l.bel g0).bel (((Bel.refl _).alloc (.cells #[.bool false, .slice none 0 0, .int .i64 0, .bool false, .slice none 0 0, .int .i64 0] 42)).drew)) (by omega) (by omega) hn hnn h1 z1).mono ?_); rintro e w1 ⟨A1, c1, rfl, n1, b1⟩
 try go_wp2_with fail
 refine hK.out _ _ (Bel.trans hHeld b1) (fun hHeld => ?_)
 clear hK K
 try simp only [Act.put, Ow.zS, Ow.zC, Ow.zD]
 refine rc (i := 7) (fun K hK => ?_)
 go_simp
 go_at_call 220
 (with_reducible refine (cut1 _ (TT.out.bel (g0.trans ((((Bel.refl _).alloc (.cells #[.bool false, .slice none 0 0, .int .i64 0, .bool false, .slice none 0 0, .int .i64 0] 42)).drew).trans b1))) (KCAP.out.bel ((((Bel.refl _).alloc (.cells #[.bool false, .slice none 0 0, .int .i64 0, .bool false, .slice none 0 0, .int .i64 0] 42)).drew).trans b1)) ((p0h.bel g0).bel ((((Bel.refl _).alloc (.cells #[.bool false, .slice none 0 0, .int .i64 0, .bool false, .slice none 0 0, .int .i64 0] 42)).drew).trans b1)) (by omega) (by omega) hn hnn h2 z2).mono ?_); rintro e w2 ⟨A2, c2, rfl, n2, b2⟩
 try go_wp2_with fail
 refine hK.out _ _ (Bel.trans hHeld b2) (fun hHeld => ?_)
 clear hK K
 refine rt (i := 8) hHeld ?_
 try simp only [Act.put, Ow.zS, Ow.zC, Ow.zD]
 refine rc (i := 9) (fun K hK => ?_)
 have KRz := Ho.mk ((KR.out.bel ((((Bel.refl _).drew).trans b1).trans b2)))
 have yr0 := KRz.out.cell (i := 0) rfl
 have zr0 := KRz.out.free 0
 have yr1 := KRz.out.cell (i := 1) rfl
 have zr1 := KRz.out.free 1
 have yr2 := KRz.out.cell (i := 2) rfl
 have zr2 := KRz.out.free 2
 have yr3 := KRz.out.cell (i := 3) rfl
 have zr3 := KRz.out.free 3
 have yr4 := KRz.out.cell (i := 4) rfl
 have zr4 := KRz.out.free 4
 have yr5 := KRz.out.cell (i := 5) rfl
 have zr5 := KRz.out.free 5
 go_simp
 refine hK.out _ _ (I0.bel_set6 hHeld (Nat.le_of_eq hS) _ _ _ _ _ _) (fun hHeld => ?_)
 clear hK K
 try simp only [Act.put, Ow.zS, Ow.zC, Ow.zD]
 refine wpAnyH_done (by kernel_rfl) ?_ _
 have BZ := Ho.mk (g0.trans (((((Bel.refl _).alloc (.cells #[.bool false, .slice none 0 0, .int .i64 0, .bool false, .slice none 0 0, .int .i64 0] 42)).drew).trans b1).trans b2))
 have HZ0 := Ho.mk (n1.bel ((Bel.refl _).trans b2))
 have HZ1 := Ho.mk n2
 go_wp2
 exact I0.gives_endI (fn := Tryz.f216) (i := (i.1, i.2)) rfl rfl BZ.out (by omega) KRz.out (HZ0.out.mono (by omega) (by omega)) (HZ1.out.mono (by omega) (by omega))
theorem endsRoot {A0 B0 : Option Addr} {c0 d0 : Nat} {a : Iv} {L0 U0 : Nat} {bk : Nat} {n : Nat} {nn : Int} {i : Iv} {L U : Nat} (w : World) (T : Tab w) (hc : Blk w bk 3 [.int .i64 nn]) (p0l : Dv w A0 c0 a.1 L0 U0) (p0h : Dv w B0 d0 a.2 L0 U0) (hL0 : L0 ≤ 3000) (hU0 : U0 ≤ 3000) (hn : n ≤ 3000) (hnn : (n : Int) = nn) (h1 : rootV a.1 n false = i.1) (z1 : Wd i.1 L U) (h2 : rootV a.2 n true = i.2) (z2 : Wd i.2 L U) :
  Calls Tryz.prog 216 #[.agg #[.bool (dneg a.1), .slice A0 (digs (dm a.1)).length c0, .int .i64 (de a.1), .bool (dneg a.2), .slice B0 (digs (dm a.2)).length d0, .int .i64 (de a.2)], .func (.func 217) #[] #[.pointer (some ⟨bk, 0, none⟩)]] w (MakesI w i L U) := by
 have TT := Ho.mk T
 clear T
 go_enter Tryz.func216, Tryz.ntmps216
 go_wp2_with fail
 have KB2 := Ho.mk (Blk.new w [.bool (dneg a.1), .slice A0 (digs (dm a.1)).length c0, .int .i64 (de a.1), .bool (dneg a.2), .slice B0 (digs (dm a.2)).length d0, .int .i64 (de a.2)] 42)
 have g0 := (Bel.refl w).alloc (.cells #[.bool (dneg a.1), .slice A0 (digs (dm a.1)).length c0, .int .i64 (de a.1), .bool (dneg a.2), .slice B0 (digs (dm a.2)).length d0, .int .i64 (de a.2)] 42)
 have hS : (w.alloc (.cells #[.bool (dneg a.1), .slice A0 (digs (dm a.1)).length c0, .int .i64 (de a.1), .bool (dneg a.2), .slice B0 (digs (dm a.2)).length d0, .int .i64 (de a.2)] 42)).heap.size = w.heap.size + 1 := by simp only [World.size_alloc]
 have hZ : (w.alloc (.cells #[.bool (dneg a.1), .slice A0 (digs (dm a.1)).length c0, .int .i64 (de a.1), .bool (dneg a.2), .slice B0 (digs (dm a.2)).length d0, .int .i64 (de a.2)] 42)) = (w.alloc (.cells #[.bool (dneg a.1), .slice A0 (digs (dm a.1)).length c0, .int .i64 (de a.1), .bool (dneg a.2), .slice B0 (digs (dm a.2)).length d0, .int .i64 (de a.2)] 42)) := rfl
 generalize (w.alloc (.cells #[.bool (dneg a.1), .slice A0 (digs (dm a.1)).length c0, .int .i64 (de a.1), .bool (dneg a.2), .slice B0 (digs (dm a.2)).length d0, .int .i64 (de a.2)] 42)) = w0 at *
 clear hZ
 have KR := Ho.mk (Blk.new w0 [.bool false, .slice none 0 0, .int .i64 0, .bool false, .slice none 0 0, .int .i64 0] 42)
 rw [hS] at KR
 have KCAP := Ho.mk (hc.bel g0)
 have KB2_r1 := Ho.mk (KB2.out)
 obtain ⟨yB2_r1_0, yB2_r1_1, yB2_r1_2, yB2_r1_3, yB2_r1_4, yB2_r1_5⟩ := KB2_r1.out.c6
 refine wp_region_held_drew (S := fun w' => Bel w0 w') (by kernel_rfl) ((Bel.refl _).alloc (.cells #[.bool false, .slice none 0 0, .int .i64 0, .bool false, .slice none 0 0, .int .i64 0] 42)).drew (fun hHeld => ?_)
 (try dsimp only at hHeld)
 refine rt (i := 0) hHeld ?_
 refine rt (i := 1) hHeld ?_
 refine rl (i := 2) (v := ?_) hHeld (fun w hSw => ?_) ?_
 rotate_left
 ·(have z0 := hSw.cell yB2_r1_0; have z1 := hSw.cell yB2_r1_1; have z2 := hSw.cell yB2_r1_2; go_simp; try (with_reducible rfl))
 refine rt (i := 4) hHeld ?_
 refine rt (i := 5) hHeld ?_
 refine rl (i := 6) (v := ?_) hHeld (fun w hSw => ?_) ?_
 rotate_left
 ·(have z3 := hSw.cell yB2_r1_3; have z4 := hSw.cell yB2_r1_4; have z5 := hSw.cell yB2_r1_5; go_simp; try (with_reducible rfl))
 try simp only [Act.put, Ow.zS, Ow.zC, Ow.zD]
 refine rc (i := 3) (fun K hK => ?_)
 go_simp
 go_at_call 217
 (with_reducible refine (root1 _ (TT.out.bel (g0.trans (((Bel.refl _).alloc (.cells #[.bool false, .slice none 0 0, .int .i64 0, .bool false, .slice none 0 0, .int .i64 0] 42)).drew))) (KCAP.out.bel (((Bel.refl _).alloc (.cells #[.bool false, .slice none 0 0, .int .i64 0, .bool false, .slice none 0 0, .int .i64 0] 42)).drew)) ((p0l.bel g0).bel (((Bel.refl _).alloc (.cells #[.bool false, .slice none 0 0, .int .i64 0, .bool false, .slice none 0 0, .int .i64 0] 42)).drew)) (by omega) (by omega) hn hnn h1 z1).mono ?_); rintro e w1 ⟨A1, c1, rfl, n1, b1⟩
 try go_wp2_with fail
 refine hK.out _ _ (Bel.trans hHeld b1) (fun hHeld => ?_)
 clear hK K
 try simp only [Act.put, Ow.zS, Ow.zC, Ow.zD]
 refine rc (i := 7) (fun K hK => ?_)
 go_simp
 go_at_call 217
 (with_reducible refine (root1 _ (TT.out.bel (g0.trans ((((Bel.refl _).alloc (.cells #[.bool false, .slice none 0 0, .int .i64 0, .bool false, .slice none 0 0, .int .i64 0] 42)).drew).trans b1))) (KCAP.out.bel ((((Bel.refl _).alloc (.cells #[.bool false, .slice none 0 0, .int .i64 0, .bool false, .slice none 0 0, .int .i64 0] 42)).drew).trans b1)) ((p0h.bel g0).bel ((((Bel.refl _).alloc (.cells #[.bool false, .slice none 0 0, .int .i64 0, .bool false, .slice none 0 0, .int .i64 0] 42)).drew).trans b1)) (by omega) (by omega) hn hnn h2 z2).mono ?_); rintro e w2 ⟨A2, c2, rfl, n2, b2⟩
 try go_wp2_with fail
 refine hK.out _ _ (Bel.trans hHeld b2) (fun hHeld => ?_)
 clear hK K
 refine rt (i := 8) hHeld ?_
 try simp only [Act.put, Ow.zS, Ow.zC, Ow.zD]
 refine rc (i := 9) (fun K hK => ?_)
 have KRz := Ho.mk ((KR.out.bel ((((Bel.refl _).drew).trans b1).trans b2)))
 have yr0 := KRz.out.cell (i := 0) rfl
 have zr0 := KRz.out.free 0
 have yr1 := KRz.out.cell (i := 1) rfl
 have zr1 := KRz.out.free 1
 have yr2 := KRz.out.cell (i := 2) rfl
 have zr2 := KRz.out.free 2
 have yr3 := KRz.out.cell (i := 3) rfl
 have zr3 := KRz.out.free 3
 have yr4 := KRz.out.cell (i := 4) rfl
 have zr4 := KRz.out.free 4
 have yr5 := KRz.out.cell (i := 5) rfl
 have zr5 := KRz.out.free 5
 go_simp
 refine hK.out _ _ (I0.bel_set6 hHeld (Nat.le_of_eq hS) _ _ _ _ _ _) (fun hHeld => ?_)
 clear hK K
 try simp only [Act.put, Ow.zS, Ow.zC, Ow.zD]
 refine wpAnyH_done (by kernel_rfl) ?_ _
 have BZ := Ho.mk (g0.trans (((((Bel.refl _).alloc (.cells #[.bool false, .slice none 0 0, .int .i64 0, .bool false, .slice none 0 0, .int .i64 0] 42)).drew).trans b1).trans b2))
 have HZ0 := Ho.mk (n1.bel ((Bel.refl _).trans b2))
 have HZ1 := Ho.mk n2
 go_wp2
 exact I0.gives_endI (fn := Tryz.f216) (i := (i.1, i.2)) rfl rfl BZ.out (by omega) KRz.out (HZ0.out.mono (by omega) (by omega)) (HZ1.out.mono (by omega) (by omega))
theorem dShiftI {A0 B0 : Option Addr} {c0 d0 : Nat} {a : Iv} {L0 U0 : Nat} {k : Int} {N : Nat} (w : World) (T : Tab w) (p0l : Dv w A0 c0 a.1 L0 U0) (p0h : Dv w B0 d0 a.2 L0 U0) (hL0 : L0 ≤ 3000) (hU0 : U0 ≤ 3000) (hN : N ≤ 3000) (hk0 : -(N : Int) ≤ k) (hk1 : k ≤ N) :
  Calls Tryz.prog 212 #[.agg #[.bool (dneg a.1), .slice A0 (digs (dm a.1)).length c0, .int .i64 (de a.1), .bool (dneg a.2), .slice B0 (digs (dm a.2)).length d0, .int .i64 (de a.2)], .int .i64 k] w (MakesI w (ishift a k) (L0 + N) (U0 + N)) := by
 have TT := Ho.mk T
 clear T
 go_enter Tryz.func212, Tryz.ntmps212
 go_wp2_with fail
 have KB2 := Ho.mk ((Blk.new w [.bool (dneg a.1), .slice A0 (digs (dm a.1)).length c0, .int .i64 (de a.1), .bool (dneg a.2), .slice B0 (digs (dm a.2)).length d0, .int .i64 (de a.2)] 42).old (.cells #[.int .i64 k] 3))
 have KB3 := Ho.mk (Blk.new (w.alloc (.cells #[.bool (dneg a.1), .slice A0 (digs (dm a.1)).length c0, .int .i64 (de a.1), .bool (dneg a.2), .slice B0 (digs (dm a.2)).length d0, .int .i64 (de a.2)] 42)) [.int .i64 k] 3)
 rw [World.size_alloc] at KB3
 have g0 := ((Bel.refl w).alloc (.cells #[.bool (dneg a.1), .slice A0 (digs (dm a.1)).length c0, .int .i64 (de a.1), .bool (dneg a.2), .slice B0 (digs (dm a.2)).length d0, .int .i64 (de a.2)] 42)).alloc (.cells #[.int .i64 k] 3)
 have hS : ((w.alloc (.cells #[.bool (dneg a.1), .slice A0 (digs (dm a.1)).length c0, .int .i64 (de a.1), .bool (dneg a.2), .slice B0 (digs (dm a.2)).length d0, .int .i64 (de a.2)] 42)).alloc (.cells #[.int .i64 k] 3)).heap.size = w.heap.size + 1 + 1 := by simp only [World.size_alloc]
 have hZ : ((w.alloc (.cells #[.bool (dneg a.1), .slice A0 (digs (dm a.1)).length c0, .int .i64 (de a.1), .bool (dneg a.2), .slice B0 (digs (dm a.2)).length d0, .int .i64 (de a.2)] 42)).alloc (.cells #[.int .i64 k] 3)) = ((w.alloc (.cells #[.bool (dneg a.1), .slice A0 (digs (dm a.1)).length c0, .int .i64 (de a.1), .bool (dneg a.2), .slice B0 (digs (dm a.2)).length d0, .int .i64 (de a.2)] 42)).alloc (.cells #[.int .i64 k] 3)) := rfl
 generalize ((w.alloc (.cells #[.bool (dneg a.1), .slice A0 (digs (dm a.1)).length c0, .int .i64 (de a.1), .bool (dneg a.2), .slice B0 (digs (dm a.2)).length d0, .int .i64 (de a.2)] 42)).alloc (.cells #[.int .i64 k] 3)) = w0 at *
 clear hZ
 have KR := Ho.mk (Blk.new w0 [.bool false, .slice none 0 0, .int .i64 0, .bool false, .slice none 0 0, .int .i64 0] 42)
 rw [hS] at KR
 have KB2_0_1 := Ho.mk ((KB2.out.bel ((Bel.refl _).alloc (.cells #[.bool false, .slice none 0 0, .int .i64 0, .bool false, .slice none 0 0, .int .i64 0] 42))))
 obtain ⟨yB2_0_1_0, yB2_0_1_1, yB2_0_1_2, yB2_0_1_3, yB2_0_1_4, yB2_0_1_5⟩ := KB2_0_1.out.c6
 (with_reducible refine (endsShift _ (TT.out.bel (g0.trans ((Bel.refl _).alloc (.cells #[.bool false, .slice none 0 0, .int .i64 0, .bool false, .slice none 0 0, .int .i64 0] 42)))) (KB3.out.bel ((Bel.refl _).alloc (.cells #[.bool false, .slice none 0 0, .int .i64 0, .bool false, .slice none 0 0, .int .i64 0] 42))) ((p0l.bel g0).bel ((Bel.refl _).alloc (.cells #[.bool false, .slice none 0 0, .int .i64 0, .bool false, .slice none 0 0, .int .i64 0] 42))) ((p0h.bel g0).bel ((Bel.refl _).alloc (.cells #[.bool false, .slice none 0 0, .int .i64 0, .bool false, .slice none 0 0, .int .i64 0] 42))) (by omega) (by omega) (by omega) (by omega) (by omega)).mono ?_); rintro e w1 ⟨A1, c1, B1, d1, rfl, n1, m1, b1⟩
 clear yB2_0_1_0 yB2_0_1_1 yB2_0_1_2 yB2_0_1_3 yB2_0_1_4 yB2_0_1_5
 have KRz := Ho.mk ((KR.out.bel ((Bel.refl _).trans b1)))
 have yr0 := KRz.out.cell (i := 0) rfl
 have zr0 := KRz.out.free 0
 have yr1 := KRz.out.cell (i := 1) rfl
 have zr1 := KRz.out.free 1
 have yr2 := KRz.out.cell (i := 2) rfl
 have zr2 := KRz.out.free 2
 have yr3 := KRz.out.cell (i := 3) rfl
 have zr3 := KRz.out.free 3
 have yr4 := KRz.out.cell (i := 4) rfl
 have zr4 := KRz.out.free 4
 have yr5 := KRz.out.cell (i := 5) rfl
 have zr5 := KRz.out.free 5
 have BZ := Ho.mk (g0.trans (((Bel.refl _).alloc (.cells #[.bool false, .slice none 0 0, .int .i64 0, .bool false, .slice none 0 0, .int .i64 0] 42)).trans b1))
 have HZ0 := Ho.mk n1
 have HZ1 := Ho.mk m1
 go_wp2
 exact I0.gives_endI (fn := Tryz.f212) (i := ((ishift a k).1, (ishift a k).2)) rfl rfl BZ.out (by omega) KRz.out (HZ0.out.mono (by omega) (by omega)) (HZ1.out.mono (by omega) (by omega))
theorem dCutI {A0 B0 : Option Addr} {c0 d0 : Nat} {a : Iv} {L0 U0 : Nat} {n : Nat} {nn : Int} {i : Iv} {L U : Nat} (w : World) (T : Tab w) (p0l : Dv w A0 c0 a.1 L0 U0) (p0h : Dv w B0 d0 a.2 L0 U0) (hL0 : L0 ≤ 3000) (hU0 : U0 ≤ 3000) (hn : n ≤ 3000) (hnn : (n : Int) = nn) (h1 : cutV a.1 n false = i.1) (z1 : Wd i.1 L U) (h2 : cutV a.2 n true = i.2) (z2 : Wd i.2 L U) :
  Calls Tryz.prog 214 #[.agg #[.bool (dneg a.1), .slice A0 (digs (dm a.1)).length c0, .int .i64 (de a.1), .bool (dneg a.2), .slice B0 (digs (dm a.2)).length d0, .int .i64 (de a.2)], .int .i64 nn] w (MakesI w i L U) := by
 have TT := Ho.mk T
 clear T
 go_enter Tryz.func214, Tryz.ntmps214
 go_wp2_with fail
 have KB2 := Ho.mk ((Blk.new w [.bool (dneg a.1), .slice A0 (digs (dm a.1)).length c0, .int .i64 (de a.1), .bool (dneg a.2), .slice B0 (digs (dm a.2)).length d0, .int .i64 (de a.2)] 42).old (.cells #[.int .i64 nn] 3))
 have KB3 := Ho.mk (Blk.new (w.alloc (.cells #[.bool (dneg a.1), .slice A0 (digs (dm a.1)).length c0, .int .i64 (de a.1), .bool (dneg a.2), .slice B0 (digs (dm a.2)).length d0, .int .i64 (de a.2)] 42)) [.int .i64 nn] 3)
 rw [World.size_alloc] at KB3
 have g0 := ((Bel.refl w).alloc (.cells #[.bool (dneg a.1), .slice A0 (digs (dm a.1)).length c0, .int .i64 (de a.1), .bool (dneg a.2), .slice B0 (digs (dm a.2)).length d0, .int .i64 (de a.2)] 42)).alloc (.cells #[.int .i64 nn] 3)
 have hS : ((w.alloc (.cells #[.bool (dneg a.1), .slice A0 (digs (dm a.1)).length c0, .int .i64 (de a.1), .bool (dneg a.2), .slice B0 (digs (dm a.2)).length d0, .int .i64 (de a.2)] 42)).alloc (.cells #[.int .i64 nn] 3)).heap.size = w.heap.size + 1 + 1 := by simp only [World.size_alloc]
 have hZ : ((w.alloc (.cells #[.bool (dneg a.1), .slice A0 (digs (dm a.1)).length c0, .int .i64 (de a.1), .bool (dneg a.2), .slice B0 (digs (dm a.2)).length d0, .int .i64 (de a.2)] 42)).alloc (.cells #[.int .i64 nn] 3)) = ((w.alloc (.cells #[.bool (dneg a.1), .slice A0 (digs (dm a.1)).length c0, .int .i64 (de a.1), .bool (dneg a.2), .slice B0 (digs (dm a.2)).length d0, .int .i64 (de a.2)] 42)).alloc (.cells #[.int .i64 nn] 3)) := rfl
 generalize ((w.alloc (.cells #[.bool (dneg a.1), .slice A0 (digs (dm a.1)).length c0, .int .i64 (de a.1), .bool (dneg a.2), .slice B0 (digs (dm a.2)).length d0, .int .i64 (de a.2)] 42)).alloc (.cells #[.int .i64 nn] 3)) = w0 at *
 clear hZ
 have KR := Ho.mk (Blk.new w0 [.bool false, .slice none 0 0, .int .i64 0, .bool false, .slice none 0 0, .int .i64 0] 42)
 rw [hS] at KR
 have KB2_0_1 := Ho.mk ((KB2.out.bel ((Bel.refl _).alloc (.cells #[.bool false, .slice none 0 0, .int .i64 0, .bool false, .slice none 0 0, .int .i64 0] 42))))
 obtain ⟨yB2_0_1_0, yB2_0_1_1, yB2_0_1_2, yB2_0_1_3, yB2_0_1_4, yB2_0_1_5⟩ := KB2_0_1.out.c6
 (with_reducible refine (endsCut _ (TT.out.bel (g0.trans ((Bel.refl _).alloc (.cells #[.bool false, .slice none 0 0, .int .i64 0, .bool false, .slice none 0 0, .int .i64 0] 42)))) (KB3.out.bel ((Bel.refl _).alloc (.cells #[.bool false, .slice none 0 0, .int .i64 0, .bool false, .slice none 0 0, .int .i64 0] 42))) ((p0l.bel g0).bel ((Bel.refl _).alloc (.cells #[.bool false, .slice none 0 0, .int .i64 0, .bool false, .slice none 0 0, .int .i64 0] 42))) ((p0h.bel g0).bel ((Bel.refl _).alloc (.cells #[.bool false, .slice none 0 0, .int .i64 0, .bool false, .slice none 0 0, .int .i64 0] 42))) (by omega) (by omega) hn hnn h1 z1 h2 z2).mono ?_); rintro e w1 ⟨A1, c1, B1, d1, rfl, n1, m1, b1⟩
 clear yB2_0_1_0 yB2_0_1_1 yB2_0_1_2 yB2_0_1_3 yB2_0_1_4 yB2_0_1_5
 have KRz := Ho.mk ((KR.out.bel ((Bel.refl _).trans b1)))
 have yr0 := KRz.out.cell (i := 0) rfl
 have zr0 := KRz.out.free 0
 have yr1 := KRz.out.cell (i := 1) rfl
 have zr1 := KRz.out.free 1
 have yr2 := KRz.out.cell (i := 2) rfl
 have zr2 := KRz.out.free 2
 have yr3 := KRz.out.cell (i := 3) rfl
 have zr3 := KRz.out.free 3
 have yr4 := KRz.out.cell (i := 4) rfl
 have zr4 := KRz.out.free 4
 have yr5 := KRz.out.cell (i := 5) rfl
 have zr5 := KRz.out.free 5
 have BZ := Ho.mk (g0.trans (((Bel.refl _).alloc (.cells #[.bool false, .slice none 0 0, .int .i64 0, .bool false, .slice none 0 0, .int .i64 0] 42)).trans b1))
 have HZ0 := Ho.mk n1
 have HZ1 := Ho.mk m1
 go_wp2
 exact I0.gives_endI (fn := Tryz.f214) (i := (i.1, i.2)) rfl rfl BZ.out (by omega) KRz.out (HZ0.out.mono (by omega) (by omega)) (HZ1.out.mono (by omega) (by omega))
theorem dRootI {A0 B0 : Option Addr} {c0 d0 : Nat} {a : Iv} {L0 U0 : Nat} {n : Nat} {nn : Int} {i : Iv} {L U : Nat} (w : World) (T : Tab w) (p0l : Dv w A0 c0 a.1 L0 U0) (p0h : Dv w B0 d0 a.2 L0 U0) (hL0 : L0 ≤ 3000) (hU0 : U0 ≤ 3000) (hn : n ≤ 3000) (hnn : (n : Int) = nn) (hs : 0 ≤ sgn a.1) (h1 : rootV a.1 n false = i.1) (z1 : Wd i.1 L U) (h2 : rootV a.2 n true = i.2) (z2 : Wd i.2 L U) :
  Calls Tryz.prog 211 #[.agg #[.bool (dneg a.1), .slice A0 (digs (dm a.1)).length c0, .int .i64 (de a.1), .bool (dneg a.2), .slice B0 (digs (dm a.2)).length d0, .int .i64 (de a.2)], .int .i64 nn] w (MakesIB w i true L U) := by
 have TT := Ho.mk T
 clear T
 go_enter Tryz.func211, Tryz.ntmps211
 go_wp2_with fail
 have KB2 := Ho.mk ((Blk.new w [.bool (dneg a.1), .slice A0 (digs (dm a.1)).length c0, .int .i64 (de a.1), .bool (dneg a.2), .slice B0 (digs (dm a.2)).length d0, .int .i64 (de a.2)] 42).old (.cells #[.int .i64 nn] 3))
 have KB3 := Ho.mk (Blk.new (w.alloc (.cells #[.bool (dneg a.1), .slice A0 (digs (dm a.1)).length c0, .int .i64 (de a.1), .bool (dneg a.2), .slice B0 (digs (dm a.2)).length d0, .int .i64 (de a.2)] 42)) [.int .i64 nn] 3)
 rw [World.size_alloc] at KB3
 have g0 := ((Bel.refl w).alloc (.cells #[.bool (dneg a.1), .slice A0 (digs (dm a.1)).length c0, .int .i64 (de a.1), .bool (dneg a.2), .slice B0 (digs (dm a.2)).length d0, .int .i64 (de a.2)] 42)).alloc (.cells #[.int .i64 nn] 3)
 have hS : ((w.alloc (.cells #[.bool (dneg a.1), .slice A0 (digs (dm a.1)).length c0, .int .i64 (de a.1), .bool (dneg a.2), .slice B0 (digs (dm a.2)).length d0, .int .i64 (de a.2)] 42)).alloc (.cells #[.int .i64 nn] 3)).heap.size = w.heap.size + 1 + 1 := by simp only [World.size_alloc]
 have hZ : ((w.alloc (.cells #[.bool (dneg a.1), .slice A0 (digs (dm a.1)).length c0, .int .i64 (de a.1), .bool (dneg a.2), .slice B0 (digs (dm a.2)).length d0, .int .i64 (de a.2)] 42)).alloc (.cells #[.int .i64 nn] 3)) = ((w.alloc (.cells #[.bool (dneg a.1), .slice A0 (digs (dm a.1)).length c0, .int .i64 (de a.1), .bool (dneg a.2), .slice B0 (digs (dm a.2)).length d0, .int .i64 (de a.2)] 42)).alloc (.cells #[.int .i64 nn] 3)) := rfl
 generalize ((w.alloc (.cells #[.bool (dneg a.1), .slice A0 (digs (dm a.1)).length c0, .int .i64 (de a.1), .bool (dneg a.2), .slice B0 (digs (dm a.2)).length d0, .int .i64 (de a.2)] 42)).alloc (.cells #[.int .i64 nn] 3)) = w0 at *
 clear hZ
 have KR := Ho.mk (Blk.new w0 [.bool false, .slice none 0 0, .int .i64 0, .bool false, .slice none 0 0, .int .i64 0] 42)
 rw [hS] at KR
 have KB2_0_1 := Ho.mk ((KB2.out.bel ((Bel.refl _).alloc (.cells #[.bool false, .slice none 0 0, .int .i64 0, .bool false, .slice none 0 0, .int .i64 0] 42))))
 obtain ⟨yB2_0_1_0, yB2_0_1_1, yB2_0_1_2, yB2_0_1_3, yB2_0_1_4, yB2_0_1_5⟩ := KB2_0_1.out.c6
 (with_reducible refine (F1.dSign ((p0l.bel g0).bel ((Bel.refl _).alloc (.cells #[.bool false, .slice none 0 0, .int .i64 0, .bool false, .slice none 0 0, .int .i64 0] 42))) rfl).mono ?_); rintro e w1 ⟨rfl, b1⟩
 clear yB2_0_1_0 yB2_0_1_1 yB2_0_1_2 yB2_0_1_3 yB2_0_1_4 yB2_0_1_5
 have KB2_1_0 := Ho.mk ((KB2_0_1.out.bel ((Bel.refl _).trans b1)))
 obtain ⟨yB2_1_0_0, yB2_1_0_1, yB2_1_0_2, yB2_1_0_3, yB2_1_0_4, yB2_1_0_5⟩ := KB2_1_0.out.c6
 go_wp2_with fail
 (with_reducible refine (endsRoot _ (TT.out.bel (g0.trans (((Bel.refl _).alloc (.cells #[.bool false, .slice none 0 0, .int .i64 0, .bool false, .slice none 0 0, .int .i64 0] 42)).trans b1))) (KB3.out.bel (((Bel.refl _).alloc (.cells #[.bool false, .slice none 0 0, .int .i64 0, .bool false, .slice none 0 0, .int .i64 0] 42)).trans b1)) ((p0l.bel g0).bel (((Bel.refl _).alloc (.cells #[.bool false, .slice none 0 0, .int .i64 0, .bool false, .slice none 0 0, .int .i64 0] 42)).trans b1)) ((p0h.bel g0).bel (((Bel.refl _).alloc (.cells #[.bool false, .slice none 0 0, .int .i64 0, .bool false, .slice none 0 0, .int .i64 0] 42)).trans b1)) (by omega) (by omega) hn hnn h1 z1 h2 z2).mono ?_); rintro e w2 ⟨A2, c2, B2, d2, rfl, n2, m2, b2⟩
 clear yB2_1_0_0 yB2_1_0_1 yB2_1_0_2 yB2_1_0_3 yB2_1_0_4 yB2_1_0_5
 have KRz := Ho.mk ((KR.out.bel (((Bel.refl _).trans b1).trans b2)))
 have yr0 := KRz.out.cell (i := 0) rfl
 have zr0 := KRz.out.free 0
 have yr1 := KRz.out.cell (i := 1) rfl
 have zr1 := KRz.out.free 1
 have yr2 := KRz.out.cell (i := 2) rfl
 have zr2 := KRz.out.free 2
 have yr3 := KRz.out.cell (i := 3) rfl
 have zr3 := KRz.out.free 3
 have yr4 := KRz.out.cell (i := 4) rfl
 have zr4 := KRz.out.free 4
 have yr5 := KRz.out.cell (i := 5) rfl
 have zr5 := KRz.out.free 5
 have BZ := Ho.mk (g0.trans ((((Bel.refl _).alloc (.cells #[.bool false, .slice none 0 0, .int .i64 0, .bool false, .slice none 0 0, .int .i64 0] 42)).trans b1).trans b2))
 have HZ0 := Ho.mk n2
 have HZ1 := Ho.mk m2
 go_wp2
 exact I0.gives_endIB (fn := Tryz.f211) (i := i) rfl rfl rfl BZ.out (by omega) KRz.out HZ0.out HZ1.out
end I3
namespace I4
open Go Go.RowKit Go.Proofs.YtalbgklfhabnkaaGreatDoor Ow Pl Dp Dt D3 F1 T0 I0 I1 I2
attribute [local go_sem ↓] Go.wp_at_zero Go.wp_at_succ
theorem rd_gr {b : Nat} {u v : World} {B : Nat} {A : Option Addr} {l : List Int} (h : RdB B u A l) (g : Gr b u v) (hB : B ≤ b) (hs : B ≤ u.heap.size) : RdB B v A l :=
 ⟨⟨h.rd.max, fun j hj => by
  obtain ⟨ad, e, hc⟩ := h.rd.cell j hj
  have hlt := h.lt ad e (by omega)
  refine ⟨ad, e, ?_⟩
  rw [← hc]
  unfold World.cell?
  rw [add_block, g.block _ (by omega) (by omega)]⟩, h.lt⟩
structure DB (B : Nat) (w : World) (A : Option Addr) (c : Nat) (v : Int) (L U : Nat) : Prop where
 cap : (digs (dm v)).length ≤ c
 rd : RdB B w A (digs (dm v))
 wd : Wd v L U
theorem DB.dv {B : Nat} {w : World} {A : Option Addr} {c : Nat} {v : Int} {L U : Nat} (h : DB B w A c v L U) : Dv w A c v L U := ⟨h.cap, h.rd.rd, h.wd⟩
theorem DB.gr {B b : Nat} {u v : World} {A : Option Addr} {c : Nat} {x : Int} {L U : Nat} (h : DB B u A c x L U) (g : Gr b u v) (hB : B ≤ b) (hs : B ≤ u.heap.size) : DB B v A c x L U := ⟨h.cap, rd_gr h.rd g hB hs, h.wd⟩
theorem Dv.db {w : World} {A : Option Addr} {c : Nat} {v : Int} {L U : Nat} (h : Dv w A c v L U) : DB w.heap.size w A c v L U := ⟨h.cap, h.rd.rdB, h.wd⟩
theorem DB.bel {B : Nat} {u v : World} {A : Option Addr} {c : Nat} {x : Int} {L U : Nat} (h : DB B u A c x L U) (g : Bel u v) : DB B v A c x L U := ⟨h.cap, h.rd.bel g, h.wd⟩
theorem set3_gr {b : Nat} {u v : World} (h : Gr b u v) (v0 v1 v2 : Value) : Gr b u (((v.setCell ⟨b, 0, none⟩ v0).setCell ⟨b, 1, none⟩ v1).setCell ⟨b, 2, none⟩ v2) := ((h.set 0 v0).set 1 v1).set 2 v2
theorem blk_set3 {w : World} {b : Nat} {t : TypeId} {u0 u1 u2 : Value} (K : Blk w b t [u0, u1, u2]) (v0 v1 v2 : Value) : Blk (((w.setCell ⟨b, 0, none⟩ v0).setCell ⟨b, 1, none⟩ v1).setCell ⟨b, 2, none⟩ v2) b t [v0, v1, v2] := ((K.set 0 v0).set 1 v1).set 2 v2
theorem Tab.lt {w : World} (h : Tab w) : 1 < w.heap.size := World.block_lt_of_cell? w _ (h.cell 0 (by decide))
theorem Tab.gr {b : Nat} {u v : World} (h : Tab u) (g : Gr b u v) (hb : 1 ≠ b) : Tab v := ⟨fun i hi => by
 have := h.cell i hi
 rw [← this]
 unfold World.cell?
 rw [g.block 1 (Tab.lt h) hb]⟩
theorem minF {A0 : Option Addr} {c0 : Nat} {p0 : Int} {A1 : Option Addr} {c1 : Nat} {p1 : Int} {A2 : Option Addr} {c2 : Nat} {p2 : Int} {A3 : Option Addr} {c3 : Nat} {p3 : Int} {bl cap L U : Nat} {sp : List Value} (w : World) (T : Tab w) (hl : Blk w bl 37 ([.bool (dneg p0), .slice A0 (digs (dm p0)).length c0, .int .i64 (de p0), .bool (dneg p1), .slice A1 (digs (dm p1)).length c1, .int .i64 (de p1), .bool (dneg p2), .slice A2 (digs (dm p2)).length c2, .int .i64 (de p2), .bool (dneg p3), .slice A3 (digs (dm p3)).length c3, .int .i64 (de p3)] ++ sp)) (q0 : Dv w A0 c0 p0 L U) (q1 : Dv w A1 c1 p1 L U) (q2 : Dv w A2 c2 p2 L U) (q3 : Dv w A3 c3 p3 L U) (hb : L + U ≤ 20000) :
  Calls Tryz.prog 223 #[.slice (some ⟨bl, 0, none⟩) 4 cap, .func (.func 176) #[] #[]] w (MakesD w (lo2 (lo2 (lo2 p0 p1) p2) p3) L U) := by
 have TT := Ho.mk T
 have HL := Ho.mk hl
 have HQ0 := Ho.mk (Dv.db q0)
 have HQ1 := Ho.mk (Dv.db q1)
 have HQ2 := Ho.mk (Dv.db q2)
 have HQ3 := Ho.mk (Dv.db q3)
 have yl0 := fun o => (hl.bel ((Bel.refl w).alloc o)).cell (i := 0) rfl
 have yl1 := fun o => (hl.bel ((Bel.refl w).alloc o)).cell (i := 1) rfl
 have yl2 := fun o => (hl.bel ((Bel.refl w).alloc o)).cell (i := 2) rfl
 clear T hl q0 q1 q2 q3
 go_enter Tryz.func223, Tryz.ntmps223
 go_wp2_with fail
 clear yl0 yl1 yl2
 have HR0 := Ho.mk ((Blk.new w [.bool false, .slice none 0 0, .int .i64 0] 37).old (.cells #[.bool (dneg p0), .slice A0 (digs (dm p0)).length c0, .int .i64 (de p0)] 37))
 have HM0 := Ho.mk (Blk.new (w.alloc (.cells #[.bool false, .slice none 0 0, .int .i64 0] 37)) [.bool (dneg p0), .slice A0 (digs (dm p0)).length c0, .int .i64 (de p0)] 37)
 rw [World.size_alloc] at HM0
 have HG0 := Ho.mk (((Bel.refl w).alloc (.cells #[.bool false, .slice none 0 0, .int .i64 0] 37)).alloc (.cells #[.bool (dneg p0), .slice A0 (digs (dm p0)).length c0, .int .i64 (de p0)] 37))
 have hS : ((w.alloc (.cells #[.bool false, .slice none 0 0, .int .i64 0] 37)).alloc (.cells #[.bool (dneg p0), .slice A0 (digs (dm p0)).length c0, .int .i64 (de p0)] 37)).heap.size = w.heap.size + 2 := by simp only [World.size_alloc]
 generalize ((w.alloc (.cells #[.bool false, .slice none 0 0, .int .i64 0] 37)).alloc (.cells #[.bool (dneg p0), .slice A0 (digs (dm p0)).length c0, .int .i64 (de p0)] 37)) = w0 at *
 go_loopw [6] (fun i wr => ∃ (k : Int) (m : Int) (A : Option Addr) (c : Nat), i = .int .i64 k ∧ Ho ((k = 1 ∧ m = p0) ∨ (k = 2 ∧ m = (lo2 p0 p1)) ∨ (k = 3 ∧ m = (lo2 (lo2 p0 p1) p2)) ∨ (k = 4 ∧ m = (lo2 (lo2 (lo2 p0 p1) p2) p3))) ∧ Ho (Blk wr (w.heap.size + 1) 37 [.bool (dneg m), .slice A (digs (dm m)).length c, .int .i64 (de m)]) ∧ Ho (DB w.heap.size wr A c m L U) ∧ Ho (Gr (w.heap.size + 1) w0 wr))
  (fun i _ => (4 - intOf i).toNat)
 case atStart => exact ⟨1, p0, A0, c0, rfl, ⟨.inl ⟨rfl, rfl⟩⟩, HM0, ⟨HQ0.out.bel HG0.out⟩, ⟨Gr.refl _ _⟩⟩
 case round =>
  obtain ⟨k, m, A, c, rfl, hk, hm, hd, hg⟩ := hrel
  have HT := Ho.mk (Tab.gr (TT.out.bel HG0.out) hg.out (by have := Tab.lt TT.out; omega))
  have KBL := Ho.mk (hg.out.blk (HL.out.bel HG0.out) (by have := HL.out.lt; omega))
  have sz := hg.out.size
  rcases hk.out with ⟨rfl, e⟩ | ⟨rfl, e⟩ | ⟨rfl, e⟩ | ⟨rfl, e⟩
  ·have HE1 := Ho.mk (DB.gr (DB.bel HQ1.out HG0.out) hg.out (by omega) (by omega))
   have HEM := Ho.mk e
   clear hk e
   obtain ⟨r, hr⟩ : ∃ r, cmpI p1 m = r := ⟨_, rfl⟩
   have HRR := Ho.mk hr
   by_cases hc : r < 0
   ·have dc : decide (r < 0) = true := decide_eq_true hc
    clear hr
    go_wp2_with fail
    have KBL_r7 := Ho.mk (KBL.out)
    obtain ⟨yBL_r7_0, yBL_r7_1, yBL_r7_2, yBL_r7_3, yBL_r7_4, yBL_r7_5, yBL_r7_6, yBL_r7_7, yBL_r7_8, yBL_r7_9, yBL_r7_10, yBL_r7_11⟩ := KBL_r7.out.c12
    have KBM_r7 := Ho.mk (hm.out)
    obtain ⟨yBM_r7_0, yBM_r7_1, yBM_r7_2⟩ := KBM_r7.out.c3
    refine wp_region_held_drew (S := fun w' => Bel wr w') (by kernel_rfl) (Bel.refl _).drew (fun hHeld => ?_)
    (try dsimp only at hHeld)
    refine rt (i := 0) hHeld ?_
    refine rt (i := 1) hHeld ?_
    refine rt (i := 2) hHeld ?_
    refine rt (i := 3) hHeld ?_
    refine rl (i := 4) (v := ?_) hHeld (fun w hSw => ?_) ?_
    rotate_left
    ·(have z3 := hSw.cell yBL_r7_3; have z4 := hSw.cell yBL_r7_4; have z5 := hSw.cell yBL_r7_5; go_simp; try (with_reducible rfl))
    refine rl (i := 5) (v := ?_) hHeld (fun w hSw => ?_) ?_
    rotate_left
    ·(have z0 := hSw.cell yBM_r7_0; have z1 := hSw.cell yBM_r7_1; have z2 := hSw.cell yBM_r7_2; go_simp; try (with_reducible rfl))
    try simp only [Act.put, Ow.zS, Ow.zC, Ow.zD]
    refine rc (i := 6) (fun K hK => ?_)
    go_simp
    go_at_call 176
    (with_reducible refine (F1.dCmp (HT.out.bel ((Bel.refl _).drew)) ((DB.dv HE1.out).bel ((Bel.refl _).drew)) ((DB.dv hd.out).bel ((Bel.refl _).drew)) hb hb HRR.out).mono ?_); rintro e w1 ⟨rfl, b1⟩
    try go_wp2_with fail
    refine hK.out _ _ (Bel.trans hHeld b1) (fun hHeld => ?_)
    clear hK K
    refine rt (i := 7) hHeld ?_
    try simp only [Act.put, Ow.zS, Ow.zC, Ow.zD]
    refine wpAnyH_done (by kernel_rfl) ?_ _
    have BT := Ho.mk (((Bel.refl _).drew).trans b1)
    clear b1
    have KL1 := Ho.mk (KBL.out.bel BT.out)
    have KM1 := Ho.mk (hm.out.bel BT.out)
    have x0 := KL1.out.cell (i := 3) rfl
    have y0 := KM1.out.cell (i := 0) rfl
    have z0 := KM1.out.free 0
    have x1 := KL1.out.cell (i := 4) rfl
    have y1 := KM1.out.cell (i := 1) rfl
    have z1 := KM1.out.free 1
    have x2 := KL1.out.cell (i := 5) rfl
    have y2 := KM1.out.cell (i := 2) rfl
    have z2 := KM1.out.free 2
    go_wp2
    go_roundw
    case rel =>
     have hp : lo2 m p1 = p1 := if_pos (by rw [HRR.out]; omega)
     exact ⟨2, p1, A1, c1, rfl, ⟨.inr (.inl ⟨rfl, by rw [← HEM.out, hp]⟩)⟩, ⟨blk_set3 KM1.out _ _ _⟩, ⟨DB.gr (DB.bel HE1.out BT.out) (set3_gr (Gr.refl _ _) _ _ _) (by omega) (by have := BT.out.size; omega)⟩, ⟨set3_gr (hg.out.trans (BT.out.gr _)) _ _ _⟩⟩
    case measure => simp [intOf]
   ·have dc : decide (r < 0) = false := decide_eq_false hc
    clear hr
    go_wp2_with fail
    have KBL_r7 := Ho.mk (KBL.out)
    obtain ⟨yBL_r7_0, yBL_r7_1, yBL_r7_2, yBL_r7_3, yBL_r7_4, yBL_r7_5, yBL_r7_6, yBL_r7_7, yBL_r7_8, yBL_r7_9, yBL_r7_10, yBL_r7_11⟩ := KBL_r7.out.c12
    have KBM_r7 := Ho.mk (hm.out)
    obtain ⟨yBM_r7_0, yBM_r7_1, yBM_r7_2⟩ := KBM_r7.out.c3
    refine wp_region_held_drew (S := fun w' => Bel wr w') (by kernel_rfl) (Bel.refl _).drew (fun hHeld => ?_)
    (try dsimp only at hHeld)
    refine rt (i := 0) hHeld ?_
    refine rt (i := 1) hHeld ?_
    refine rt (i := 2) hHeld ?_
    refine rt (i := 3) hHeld ?_
    refine rl (i := 4) (v := ?_) hHeld (fun w hSw => ?_) ?_
    rotate_left
    ·(have z3 := hSw.cell yBL_r7_3; have z4 := hSw.cell yBL_r7_4; have z5 := hSw.cell yBL_r7_5; go_simp; try (with_reducible rfl))
    refine rl (i := 5) (v := ?_) hHeld (fun w hSw => ?_) ?_
    rotate_left
    ·(have z0 := hSw.cell yBM_r7_0; have z1 := hSw.cell yBM_r7_1; have z2 := hSw.cell yBM_r7_2; go_simp; try (with_reducible rfl))
    try simp only [Act.put, Ow.zS, Ow.zC, Ow.zD]
    refine rc (i := 6) (fun K hK => ?_)
    go_simp
    go_at_call 176
    (with_reducible refine (F1.dCmp (HT.out.bel ((Bel.refl _).drew)) ((DB.dv HE1.out).bel ((Bel.refl _).drew)) ((DB.dv hd.out).bel ((Bel.refl _).drew)) hb hb HRR.out).mono ?_); rintro e w1 ⟨rfl, b1⟩
    try go_wp2_with fail
    refine hK.out _ _ (Bel.trans hHeld b1) (fun hHeld => ?_)
    clear hK K
    refine rt (i := 7) hHeld ?_
    try simp only [Act.put, Ow.zS, Ow.zC, Ow.zD]
    refine wpAnyH_done (by kernel_rfl) ?_ _
    have BT := Ho.mk (((Bel.refl _).drew).trans b1)
    clear b1
    go_wp2
    go_roundw
    case rel =>
     have hp : lo2 m p1 = m := if_neg (by rw [HRR.out]; omega)
     exact ⟨2, m, A, c, rfl, ⟨.inr (.inl ⟨rfl, by rw [← HEM.out, hp]⟩)⟩, ⟨hm.out.bel BT.out⟩, ⟨DB.bel hd.out BT.out⟩, ⟨hg.out.trans (BT.out.gr _)⟩⟩
    case measure => simp [intOf]
  ·have HE2 := Ho.mk (DB.gr (DB.bel HQ2.out HG0.out) hg.out (by omega) (by omega))
   have HEM := Ho.mk e
   clear hk e
   obtain ⟨r, hr⟩ : ∃ r, cmpI p2 m = r := ⟨_, rfl⟩
   have HRR := Ho.mk hr
   by_cases hc : r < 0
   ·have dc : decide (r < 0) = true := decide_eq_true hc
    clear hr
    go_wp2_with fail
    have KBL_r7 := Ho.mk (KBL.out)
    obtain ⟨yBL_r7_0, yBL_r7_1, yBL_r7_2, yBL_r7_3, yBL_r7_4, yBL_r7_5, yBL_r7_6, yBL_r7_7, yBL_r7_8, yBL_r7_9, yBL_r7_10, yBL_r7_11⟩ := KBL_r7.out.c12
    have KBM_r7 := Ho.mk (hm.out)
    obtain ⟨yBM_r7_0, yBM_r7_1, yBM_r7_2⟩ := KBM_r7.out.c3
    refine wp_region_held_drew (S := fun w' => Bel wr w') (by kernel_rfl) (Bel.refl _).drew (fun hHeld => ?_)
    (try dsimp only at hHeld)
    refine rt (i := 0) hHeld ?_
    refine rt (i := 1) hHeld ?_
    refine rt (i := 2) hHeld ?_
    refine rt (i := 3) hHeld ?_
    refine rl (i := 4) (v := ?_) hHeld (fun w hSw => ?_) ?_
    rotate_left
    ·(have z6 := hSw.cell yBL_r7_6; have z7 := hSw.cell yBL_r7_7; have z8 := hSw.cell yBL_r7_8; go_simp; try (with_reducible rfl))
    refine rl (i := 5) (v := ?_) hHeld (fun w hSw => ?_) ?_
    rotate_left
    ·(have z0 := hSw.cell yBM_r7_0; have z1 := hSw.cell yBM_r7_1; have z2 := hSw.cell yBM_r7_2; go_simp; try (with_reducible rfl))
    try simp only [Act.put, Ow.zS, Ow.zC, Ow.zD]
    refine rc (i := 6) (fun K hK => ?_)
    go_simp
    go_at_call 176
    (with_reducible refine (F1.dCmp (HT.out.bel ((Bel.refl _).drew)) ((DB.dv HE2.out).bel ((Bel.refl _).drew)) ((DB.dv hd.out).bel ((Bel.refl _).drew)) hb hb HRR.out).mono ?_); rintro e w1 ⟨rfl, b1⟩
    try go_wp2_with fail
    refine hK.out _ _ (Bel.trans hHeld b1) (fun hHeld => ?_)
    clear hK K
    refine rt (i := 7) hHeld ?_
    try simp only [Act.put, Ow.zS, Ow.zC, Ow.zD]
    refine wpAnyH_done (by kernel_rfl) ?_ _
    have BT := Ho.mk (((Bel.refl _).drew).trans b1)
    clear b1
    have KL1 := Ho.mk (KBL.out.bel BT.out)
    have KM1 := Ho.mk (hm.out.bel BT.out)
    have x0 := KL1.out.cell (i := 6) rfl
    have y0 := KM1.out.cell (i := 0) rfl
    have z0 := KM1.out.free 0
    have x1 := KL1.out.cell (i := 7) rfl
    have y1 := KM1.out.cell (i := 1) rfl
    have z1 := KM1.out.free 1
    have x2 := KL1.out.cell (i := 8) rfl
    have y2 := KM1.out.cell (i := 2) rfl
    have z2 := KM1.out.free 2
    go_wp2
    go_roundw
    case rel =>
     have hp : lo2 m p2 = p2 := if_pos (by rw [HRR.out]; omega)
     exact ⟨3, p2, A2, c2, rfl, ⟨.inr (.inr (.inl ⟨rfl, by rw [← HEM.out, hp]⟩))⟩, ⟨blk_set3 KM1.out _ _ _⟩, ⟨DB.gr (DB.bel HE2.out BT.out) (set3_gr (Gr.refl _ _) _ _ _) (by omega) (by have := BT.out.size; omega)⟩, ⟨set3_gr (hg.out.trans (BT.out.gr _)) _ _ _⟩⟩
    case measure => simp [intOf]
   ·have dc : decide (r < 0) = false := decide_eq_false hc
    clear hr
    go_wp2_with fail
    have KBL_r7 := Ho.mk (KBL.out)
    obtain ⟨yBL_r7_0, yBL_r7_1, yBL_r7_2, yBL_r7_3, yBL_r7_4, yBL_r7_5, yBL_r7_6, yBL_r7_7, yBL_r7_8, yBL_r7_9, yBL_r7_10, yBL_r7_11⟩ := KBL_r7.out.c12
    have KBM_r7 := Ho.mk (hm.out)
    obtain ⟨yBM_r7_0, yBM_r7_1, yBM_r7_2⟩ := KBM_r7.out.c3
    refine wp_region_held_drew (S := fun w' => Bel wr w') (by kernel_rfl) (Bel.refl _).drew (fun hHeld => ?_)
    (try dsimp only at hHeld)
    refine rt (i := 0) hHeld ?_
    refine rt (i := 1) hHeld ?_
    refine rt (i := 2) hHeld ?_
    refine rt (i := 3) hHeld ?_
    refine rl (i := 4) (v := ?_) hHeld (fun w hSw => ?_) ?_
    rotate_left
    ·(have z6 := hSw.cell yBL_r7_6; have z7 := hSw.cell yBL_r7_7; have z8 := hSw.cell yBL_r7_8; go_simp; try (with_reducible rfl))
    refine rl (i := 5) (v := ?_) hHeld (fun w hSw => ?_) ?_
    rotate_left
    ·(have z0 := hSw.cell yBM_r7_0; have z1 := hSw.cell yBM_r7_1; have z2 := hSw.cell yBM_r7_2; go_simp; try (with_reducible rfl))
    try simp only [Act.put, Ow.zS, Ow.zC, Ow.zD]
    refine rc (i := 6) (fun K hK => ?_)
    go_simp
    go_at_call 176
    (with_reducible refine (F1.dCmp (HT.out.bel ((Bel.refl _).drew)) ((DB.dv HE2.out).bel ((Bel.refl _).drew)) ((DB.dv hd.out).bel ((Bel.refl _).drew)) hb hb HRR.out).mono ?_); rintro e w1 ⟨rfl, b1⟩
    try go_wp2_with fail
    refine hK.out _ _ (Bel.trans hHeld b1) (fun hHeld => ?_)
    clear hK K
    refine rt (i := 7) hHeld ?_
    try simp only [Act.put, Ow.zS, Ow.zC, Ow.zD]
    refine wpAnyH_done (by kernel_rfl) ?_ _
    have BT := Ho.mk (((Bel.refl _).drew).trans b1)
    clear b1
    go_wp2
    go_roundw
    case rel =>
     have hp : lo2 m p2 = m := if_neg (by rw [HRR.out]; omega)
     exact ⟨3, m, A, c, rfl, ⟨.inr (.inr (.inl ⟨rfl, by rw [← HEM.out, hp]⟩))⟩, ⟨hm.out.bel BT.out⟩, ⟨DB.bel hd.out BT.out⟩, ⟨hg.out.trans (BT.out.gr _)⟩⟩
    case measure => simp [intOf]
  ·have HE3 := Ho.mk (DB.gr (DB.bel HQ3.out HG0.out) hg.out (by omega) (by omega))
   have HEM := Ho.mk e
   clear hk e
   obtain ⟨r, hr⟩ : ∃ r, cmpI p3 m = r := ⟨_, rfl⟩
   have HRR := Ho.mk hr
   by_cases hc : r < 0
   ·have dc : decide (r < 0) = true := decide_eq_true hc
    clear hr
    go_wp2_with fail
    have KBL_r7 := Ho.mk (KBL.out)
    obtain ⟨yBL_r7_0, yBL_r7_1, yBL_r7_2, yBL_r7_3, yBL_r7_4, yBL_r7_5, yBL_r7_6, yBL_r7_7, yBL_r7_8, yBL_r7_9, yBL_r7_10, yBL_r7_11⟩ := KBL_r7.out.c12
    have KBM_r7 := Ho.mk (hm.out)
    obtain ⟨yBM_r7_0, yBM_r7_1, yBM_r7_2⟩ := KBM_r7.out.c3
    refine wp_region_held_drew (S := fun w' => Bel wr w') (by kernel_rfl) (Bel.refl _).drew (fun hHeld => ?_)
    (try dsimp only at hHeld)
    refine rt (i := 0) hHeld ?_
    refine rt (i := 1) hHeld ?_
    refine rt (i := 2) hHeld ?_
    refine rt (i := 3) hHeld ?_
    refine rl (i := 4) (v := ?_) hHeld (fun w hSw => ?_) ?_
    rotate_left
    ·(have z9 := hSw.cell yBL_r7_9; have z10 := hSw.cell yBL_r7_10; have z11 := hSw.cell yBL_r7_11; go_simp; try (with_reducible rfl))
    refine rl (i := 5) (v := ?_) hHeld (fun w hSw => ?_) ?_
    rotate_left
    ·(have z0 := hSw.cell yBM_r7_0; have z1 := hSw.cell yBM_r7_1; have z2 := hSw.cell yBM_r7_2; go_simp; try (with_reducible rfl))
    try simp only [Act.put, Ow.zS, Ow.zC, Ow.zD]
    refine rc (i := 6) (fun K hK => ?_)
    go_simp
    go_at_call 176
    (with_reducible refine (F1.dCmp (HT.out.bel ((Bel.refl _).drew)) ((DB.dv HE3.out).bel ((Bel.refl _).drew)) ((DB.dv hd.out).bel ((Bel.refl _).drew)) hb hb HRR.out).mono ?_); rintro e w1 ⟨rfl, b1⟩
    try go_wp2_with fail
    refine hK.out _ _ (Bel.trans hHeld b1) (fun hHeld => ?_)
    clear hK K
    refine rt (i := 7) hHeld ?_
    try simp only [Act.put, Ow.zS, Ow.zC, Ow.zD]
    refine wpAnyH_done (by kernel_rfl) ?_ _
    have BT := Ho.mk (((Bel.refl _).drew).trans b1)
    clear b1
    have KL1 := Ho.mk (KBL.out.bel BT.out)
    have KM1 := Ho.mk (hm.out.bel BT.out)
    have x0 := KL1.out.cell (i := 9) rfl
    have y0 := KM1.out.cell (i := 0) rfl
    have z0 := KM1.out.free 0
    have x1 := KL1.out.cell (i := 10) rfl
    have y1 := KM1.out.cell (i := 1) rfl
    have z1 := KM1.out.free 1
    have x2 := KL1.out.cell (i := 11) rfl
    have y2 := KM1.out.cell (i := 2) rfl
    have z2 := KM1.out.free 2
    go_wp2
    go_roundw
    case rel =>
     have hp : lo2 m p3 = p3 := if_pos (by rw [HRR.out]; omega)
     exact ⟨4, p3, A3, c3, rfl, ⟨.inr (.inr (.inr (⟨rfl, by rw [← HEM.out, hp]⟩)))⟩, ⟨blk_set3 KM1.out _ _ _⟩, ⟨DB.gr (DB.bel HE3.out BT.out) (set3_gr (Gr.refl _ _) _ _ _) (by omega) (by have := BT.out.size; omega)⟩, ⟨set3_gr (hg.out.trans (BT.out.gr _)) _ _ _⟩⟩
    case measure => simp [intOf]
   ·have dc : decide (r < 0) = false := decide_eq_false hc
    clear hr
    go_wp2_with fail
    have KBL_r7 := Ho.mk (KBL.out)
    obtain ⟨yBL_r7_0, yBL_r7_1, yBL_r7_2, yBL_r7_3, yBL_r7_4, yBL_r7_5, yBL_r7_6, yBL_r7_7, yBL_r7_8, yBL_r7_9, yBL_r7_10, yBL_r7_11⟩ := KBL_r7.out.c12
    have KBM_r7 := Ho.mk (hm.out)
    obtain ⟨yBM_r7_0, yBM_r7_1, yBM_r7_2⟩ := KBM_r7.out.c3
    refine wp_region_held_drew (S := fun w' => Bel wr w') (by kernel_rfl) (Bel.refl _).drew (fun hHeld => ?_)
    (try dsimp only at hHeld)
    refine rt (i := 0) hHeld ?_
    refine rt (i := 1) hHeld ?_
    refine rt (i := 2) hHeld ?_
    refine rt (i := 3) hHeld ?_
    refine rl (i := 4) (v := ?_) hHeld (fun w hSw => ?_) ?_
    rotate_left
    ·(have z9 := hSw.cell yBL_r7_9; have z10 := hSw.cell yBL_r7_10; have z11 := hSw.cell yBL_r7_11; go_simp; try (with_reducible rfl))
    refine rl (i := 5) (v := ?_) hHeld (fun w hSw => ?_) ?_
    rotate_left
    ·(have z0 := hSw.cell yBM_r7_0; have z1 := hSw.cell yBM_r7_1; have z2 := hSw.cell yBM_r7_2; go_simp; try (with_reducible rfl))
    try simp only [Act.put, Ow.zS, Ow.zC, Ow.zD]
    refine rc (i := 6) (fun K hK => ?_)
    go_simp
    go_at_call 176
    (with_reducible refine (F1.dCmp (HT.out.bel ((Bel.refl _).drew)) ((DB.dv HE3.out).bel ((Bel.refl _).drew)) ((DB.dv hd.out).bel ((Bel.refl _).drew)) hb hb HRR.out).mono ?_); rintro e w1 ⟨rfl, b1⟩
    try go_wp2_with fail
    refine hK.out _ _ (Bel.trans hHeld b1) (fun hHeld => ?_)
    clear hK K
    refine rt (i := 7) hHeld ?_
    try simp only [Act.put, Ow.zS, Ow.zC, Ow.zD]
    refine wpAnyH_done (by kernel_rfl) ?_ _
    have BT := Ho.mk (((Bel.refl _).drew).trans b1)
    clear b1
    go_wp2
    go_roundw
    case rel =>
     have hp : lo2 m p3 = m := if_neg (by rw [HRR.out]; omega)
     exact ⟨4, m, A, c, rfl, ⟨.inr (.inr (.inr (⟨rfl, by rw [← HEM.out, hp]⟩)))⟩, ⟨hm.out.bel BT.out⟩, ⟨DB.bel hd.out BT.out⟩, ⟨hg.out.trans (BT.out.gr _)⟩⟩
    case measure => simp [intOf]
  ·have HEM := Ho.mk e
   have KM0 := Ho.mk (hg.out.blk HR0.out (by omega))
   have HX0 := Ho.mk hm.out
   clear hk e
   obtain ⟨y0, y1, y2⟩ := HX0.out.c3
   obtain ⟨yr0, yr1, yr2⟩ := KM0.out.c3
   have zr0 := KM0.out.free 0
   have zr1 := KM0.out.free 1
   have zr2 := KM0.out.free 2
   have BW : Ho (Bel w wr) := ⟨⟨hg.out.below HG0.out.out (by omega) (by omega)⟩⟩
   go_wp2
   rw [← HEM.out]
   exact I0.gives_endD (fn := Tryz.f223) rfl rfl BW.out (by omega) KM0.out (DB.dv hd.out)
theorem maxF {A0 : Option Addr} {c0 : Nat} {p0 : Int} {A1 : Option Addr} {c1 : Nat} {p1 : Int} {A2 : Option Addr} {c2 : Nat} {p2 : Int} {A3 : Option Addr} {c3 : Nat} {p3 : Int} {bl cap L U : Nat} {sp : List Value} (w : World) (T : Tab w) (hl : Blk w bl 37 ([.bool (dneg p0), .slice A0 (digs (dm p0)).length c0, .int .i64 (de p0), .bool (dneg p1), .slice A1 (digs (dm p1)).length c1, .int .i64 (de p1), .bool (dneg p2), .slice A2 (digs (dm p2)).length c2, .int .i64 (de p2), .bool (dneg p3), .slice A3 (digs (dm p3)).length c3, .int .i64 (de p3)] ++ sp)) (q0 : Dv w A0 c0 p0 L U) (q1 : Dv w A1 c1 p1 L U) (q2 : Dv w A2 c2 p2 L U) (q3 : Dv w A3 c3 p3 L U) (hb : L + U ≤ 20000) :
  Calls Tryz.prog 224 #[.slice (some ⟨bl, 0, none⟩) 4 cap, .func (.func 176) #[] #[]] w (MakesD w (hi2 (hi2 (hi2 p0 p1) p2) p3) L U) := by
 have TT := Ho.mk T
 have HL := Ho.mk hl
 have HQ0 := Ho.mk (Dv.db q0)
 have HQ1 := Ho.mk (Dv.db q1)
 have HQ2 := Ho.mk (Dv.db q2)
 have HQ3 := Ho.mk (Dv.db q3)
 have yl0 := fun o => (hl.bel ((Bel.refl w).alloc o)).cell (i := 0) rfl
 have yl1 := fun o => (hl.bel ((Bel.refl w).alloc o)).cell (i := 1) rfl
 have yl2 := fun o => (hl.bel ((Bel.refl w).alloc o)).cell (i := 2) rfl
 clear T hl q0 q1 q2 q3
 go_enter Tryz.func224, Tryz.ntmps224
 go_wp2_with fail
 clear yl0 yl1 yl2
 have HR0 := Ho.mk ((Blk.new w [.bool false, .slice none 0 0, .int .i64 0] 37).old (.cells #[.bool (dneg p0), .slice A0 (digs (dm p0)).length c0, .int .i64 (de p0)] 37))
 have HM0 := Ho.mk (Blk.new (w.alloc (.cells #[.bool false, .slice none 0 0, .int .i64 0] 37)) [.bool (dneg p0), .slice A0 (digs (dm p0)).length c0, .int .i64 (de p0)] 37)
 rw [World.size_alloc] at HM0
 have HG0 := Ho.mk (((Bel.refl w).alloc (.cells #[.bool false, .slice none 0 0, .int .i64 0] 37)).alloc (.cells #[.bool (dneg p0), .slice A0 (digs (dm p0)).length c0, .int .i64 (de p0)] 37))
 have hS : ((w.alloc (.cells #[.bool false, .slice none 0 0, .int .i64 0] 37)).alloc (.cells #[.bool (dneg p0), .slice A0 (digs (dm p0)).length c0, .int .i64 (de p0)] 37)).heap.size = w.heap.size + 2 := by simp only [World.size_alloc]
 generalize ((w.alloc (.cells #[.bool false, .slice none 0 0, .int .i64 0] 37)).alloc (.cells #[.bool (dneg p0), .slice A0 (digs (dm p0)).length c0, .int .i64 (de p0)] 37)) = w0 at *
 go_loopw [6] (fun i wr => ∃ (k : Int) (m : Int) (A : Option Addr) (c : Nat), i = .int .i64 k ∧ Ho ((k = 1 ∧ m = p0) ∨ (k = 2 ∧ m = (hi2 p0 p1)) ∨ (k = 3 ∧ m = (hi2 (hi2 p0 p1) p2)) ∨ (k = 4 ∧ m = (hi2 (hi2 (hi2 p0 p1) p2) p3))) ∧ Ho (Blk wr (w.heap.size + 1) 37 [.bool (dneg m), .slice A (digs (dm m)).length c, .int .i64 (de m)]) ∧ Ho (DB w.heap.size wr A c m L U) ∧ Ho (Gr (w.heap.size + 1) w0 wr))
  (fun i _ => (4 - intOf i).toNat)
 case atStart => exact ⟨1, p0, A0, c0, rfl, ⟨.inl ⟨rfl, rfl⟩⟩, HM0, ⟨HQ0.out.bel HG0.out⟩, ⟨Gr.refl _ _⟩⟩
 case round =>
  obtain ⟨k, m, A, c, rfl, hk, hm, hd, hg⟩ := hrel
  have HT := Ho.mk (Tab.gr (TT.out.bel HG0.out) hg.out (by have := Tab.lt TT.out; omega))
  have KBL := Ho.mk (hg.out.blk (HL.out.bel HG0.out) (by have := HL.out.lt; omega))
  have sz := hg.out.size
  rcases hk.out with ⟨rfl, e⟩ | ⟨rfl, e⟩ | ⟨rfl, e⟩ | ⟨rfl, e⟩
  ·have HE1 := Ho.mk (DB.gr (DB.bel HQ1.out HG0.out) hg.out (by omega) (by omega))
   have HEM := Ho.mk e
   clear hk e
   obtain ⟨r, hr⟩ : ∃ r, cmpI p1 m = r := ⟨_, rfl⟩
   have HRR := Ho.mk hr
   by_cases hc : 0 < r
   ·have dc : decide (0 < r) = true := decide_eq_true hc
    clear hr
    go_wp2_with fail
    have KBL_r7 := Ho.mk (KBL.out)
    obtain ⟨yBL_r7_0, yBL_r7_1, yBL_r7_2, yBL_r7_3, yBL_r7_4, yBL_r7_5, yBL_r7_6, yBL_r7_7, yBL_r7_8, yBL_r7_9, yBL_r7_10, yBL_r7_11⟩ := KBL_r7.out.c12
    have KBM_r7 := Ho.mk (hm.out)
    obtain ⟨yBM_r7_0, yBM_r7_1, yBM_r7_2⟩ := KBM_r7.out.c3
    refine wp_region_held_drew (S := fun w' => Bel wr w') (by kernel_rfl) (Bel.refl _).drew (fun hHeld => ?_)
    (try dsimp only at hHeld)
    refine rt (i := 0) hHeld ?_
    refine rt (i := 1) hHeld ?_
    refine rt (i := 2) hHeld ?_
    refine rt (i := 3) hHeld ?_
    refine rl (i := 4) (v := ?_) hHeld (fun w hSw => ?_) ?_
    rotate_left
    ·(have z3 := hSw.cell yBL_r7_3; have z4 := hSw.cell yBL_r7_4; have z5 := hSw.cell yBL_r7_5; go_simp; try (with_reducible rfl))
    refine rl (i := 5) (v := ?_) hHeld (fun w hSw => ?_) ?_
    rotate_left
    ·(have z0 := hSw.cell yBM_r7_0; have z1 := hSw.cell yBM_r7_1; have z2 := hSw.cell yBM_r7_2; go_simp; try (with_reducible rfl))
    try simp only [Act.put, Ow.zS, Ow.zC, Ow.zD]
    refine rc (i := 6) (fun K hK => ?_)
    go_simp
    go_at_call 176
    (with_reducible refine (F1.dCmp (HT.out.bel ((Bel.refl _).drew)) ((DB.dv HE1.out).bel ((Bel.refl _).drew)) ((DB.dv hd.out).bel ((Bel.refl _).drew)) hb hb HRR.out).mono ?_); rintro e w1 ⟨rfl, b1⟩
    try go_wp2_with fail
    refine hK.out _ _ (Bel.trans hHeld b1) (fun hHeld => ?_)
    clear hK K
    refine rt (i := 7) hHeld ?_
    try simp only [Act.put, Ow.zS, Ow.zC, Ow.zD]
    refine wpAnyH_done (by kernel_rfl) ?_ _
    have BT := Ho.mk (((Bel.refl _).drew).trans b1)
    clear b1
    have KL1 := Ho.mk (KBL.out.bel BT.out)
    have KM1 := Ho.mk (hm.out.bel BT.out)
    have x0 := KL1.out.cell (i := 3) rfl
    have y0 := KM1.out.cell (i := 0) rfl
    have z0 := KM1.out.free 0
    have x1 := KL1.out.cell (i := 4) rfl
    have y1 := KM1.out.cell (i := 1) rfl
    have z1 := KM1.out.free 1
    have x2 := KL1.out.cell (i := 5) rfl
    have y2 := KM1.out.cell (i := 2) rfl
    have z2 := KM1.out.free 2
    go_wp2
    go_roundw
    case rel =>
     have hp : hi2 m p1 = p1 := if_pos (by rw [HRR.out]; omega)
     exact ⟨2, p1, A1, c1, rfl, ⟨.inr (.inl ⟨rfl, by rw [← HEM.out, hp]⟩)⟩, ⟨blk_set3 KM1.out _ _ _⟩, ⟨DB.gr (DB.bel HE1.out BT.out) (set3_gr (Gr.refl _ _) _ _ _) (by omega) (by have := BT.out.size; omega)⟩, ⟨set3_gr (hg.out.trans (BT.out.gr _)) _ _ _⟩⟩
    case measure => simp [intOf]
   ·have dc : decide (0 < r) = false := decide_eq_false hc
    clear hr
    go_wp2_with fail
    have KBL_r7 := Ho.mk (KBL.out)
    obtain ⟨yBL_r7_0, yBL_r7_1, yBL_r7_2, yBL_r7_3, yBL_r7_4, yBL_r7_5, yBL_r7_6, yBL_r7_7, yBL_r7_8, yBL_r7_9, yBL_r7_10, yBL_r7_11⟩ := KBL_r7.out.c12
    have KBM_r7 := Ho.mk (hm.out)
    obtain ⟨yBM_r7_0, yBM_r7_1, yBM_r7_2⟩ := KBM_r7.out.c3
    refine wp_region_held_drew (S := fun w' => Bel wr w') (by kernel_rfl) (Bel.refl _).drew (fun hHeld => ?_)
    (try dsimp only at hHeld)
    refine rt (i := 0) hHeld ?_
    refine rt (i := 1) hHeld ?_
    refine rt (i := 2) hHeld ?_
    refine rt (i := 3) hHeld ?_
    refine rl (i := 4) (v := ?_) hHeld (fun w hSw => ?_) ?_
    rotate_left
    ·(have z3 := hSw.cell yBL_r7_3; have z4 := hSw.cell yBL_r7_4; have z5 := hSw.cell yBL_r7_5; go_simp; try (with_reducible rfl))
    refine rl (i := 5) (v := ?_) hHeld (fun w hSw => ?_) ?_
    rotate_left
    ·(have z0 := hSw.cell yBM_r7_0; have z1 := hSw.cell yBM_r7_1; have z2 := hSw.cell yBM_r7_2; go_simp; try (with_reducible rfl))
    try simp only [Act.put, Ow.zS, Ow.zC, Ow.zD]
    refine rc (i := 6) (fun K hK => ?_)
    go_simp
    go_at_call 176
    (with_reducible refine (F1.dCmp (HT.out.bel ((Bel.refl _).drew)) ((DB.dv HE1.out).bel ((Bel.refl _).drew)) ((DB.dv hd.out).bel ((Bel.refl _).drew)) hb hb HRR.out).mono ?_); rintro e w1 ⟨rfl, b1⟩
    try go_wp2_with fail
    refine hK.out _ _ (Bel.trans hHeld b1) (fun hHeld => ?_)
    clear hK K
    refine rt (i := 7) hHeld ?_
    try simp only [Act.put, Ow.zS, Ow.zC, Ow.zD]
    refine wpAnyH_done (by kernel_rfl) ?_ _
    have BT := Ho.mk (((Bel.refl _).drew).trans b1)
    clear b1
    go_wp2
    go_roundw
    case rel =>
     have hp : hi2 m p1 = m := if_neg (by rw [HRR.out]; omega)
     exact ⟨2, m, A, c, rfl, ⟨.inr (.inl ⟨rfl, by rw [← HEM.out, hp]⟩)⟩, ⟨hm.out.bel BT.out⟩, ⟨DB.bel hd.out BT.out⟩, ⟨hg.out.trans (BT.out.gr _)⟩⟩
    case measure => simp [intOf]
  ·have HE2 := Ho.mk (DB.gr (DB.bel HQ2.out HG0.out) hg.out (by omega) (by omega))
   have HEM := Ho.mk e
   clear hk e
   obtain ⟨r, hr⟩ : ∃ r, cmpI p2 m = r := ⟨_, rfl⟩
   have HRR := Ho.mk hr
   by_cases hc : 0 < r
   ·have dc : decide (0 < r) = true := decide_eq_true hc
    clear hr
    go_wp2_with fail
    have KBL_r7 := Ho.mk (KBL.out)
    obtain ⟨yBL_r7_0, yBL_r7_1, yBL_r7_2, yBL_r7_3, yBL_r7_4, yBL_r7_5, yBL_r7_6, yBL_r7_7, yBL_r7_8, yBL_r7_9, yBL_r7_10, yBL_r7_11⟩ := KBL_r7.out.c12
    have KBM_r7 := Ho.mk (hm.out)
    obtain ⟨yBM_r7_0, yBM_r7_1, yBM_r7_2⟩ := KBM_r7.out.c3
    refine wp_region_held_drew (S := fun w' => Bel wr w') (by kernel_rfl) (Bel.refl _).drew (fun hHeld => ?_)
    (try dsimp only at hHeld)
    refine rt (i := 0) hHeld ?_
    refine rt (i := 1) hHeld ?_
    refine rt (i := 2) hHeld ?_
    refine rt (i := 3) hHeld ?_
    refine rl (i := 4) (v := ?_) hHeld (fun w hSw => ?_) ?_
    rotate_left
    ·(have z6 := hSw.cell yBL_r7_6; have z7 := hSw.cell yBL_r7_7; have z8 := hSw.cell yBL_r7_8; go_simp; try (with_reducible rfl))
    refine rl (i := 5) (v := ?_) hHeld (fun w hSw => ?_) ?_
    rotate_left
    ·(have z0 := hSw.cell yBM_r7_0; have z1 := hSw.cell yBM_r7_1; have z2 := hSw.cell yBM_r7_2; go_simp; try (with_reducible rfl))
    try simp only [Act.put, Ow.zS, Ow.zC, Ow.zD]
    refine rc (i := 6) (fun K hK => ?_)
    go_simp
    go_at_call 176
    (with_reducible refine (F1.dCmp (HT.out.bel ((Bel.refl _).drew)) ((DB.dv HE2.out).bel ((Bel.refl _).drew)) ((DB.dv hd.out).bel ((Bel.refl _).drew)) hb hb HRR.out).mono ?_); rintro e w1 ⟨rfl, b1⟩
    try go_wp2_with fail
    refine hK.out _ _ (Bel.trans hHeld b1) (fun hHeld => ?_)
    clear hK K
    refine rt (i := 7) hHeld ?_
    try simp only [Act.put, Ow.zS, Ow.zC, Ow.zD]
    refine wpAnyH_done (by kernel_rfl) ?_ _
    have BT := Ho.mk (((Bel.refl _).drew).trans b1)
    clear b1
    have KL1 := Ho.mk (KBL.out.bel BT.out)
    have KM1 := Ho.mk (hm.out.bel BT.out)
    have x0 := KL1.out.cell (i := 6) rfl
    have y0 := KM1.out.cell (i := 0) rfl
    have z0 := KM1.out.free 0
    have x1 := KL1.out.cell (i := 7) rfl
    have y1 := KM1.out.cell (i := 1) rfl
    have z1 := KM1.out.free 1
    have x2 := KL1.out.cell (i := 8) rfl
    have y2 := KM1.out.cell (i := 2) rfl
    have z2 := KM1.out.free 2
    go_wp2
    go_roundw
    case rel =>
     have hp : hi2 m p2 = p2 := if_pos (by rw [HRR.out]; omega)
     exact ⟨3, p2, A2, c2, rfl, ⟨.inr (.inr (.inl ⟨rfl, by rw [← HEM.out, hp]⟩))⟩, ⟨blk_set3 KM1.out _ _ _⟩, ⟨DB.gr (DB.bel HE2.out BT.out) (set3_gr (Gr.refl _ _) _ _ _) (by omega) (by have := BT.out.size; omega)⟩, ⟨set3_gr (hg.out.trans (BT.out.gr _)) _ _ _⟩⟩
    case measure => simp [intOf]
   ·have dc : decide (0 < r) = false := decide_eq_false hc
    clear hr
    go_wp2_with fail
    have KBL_r7 := Ho.mk (KBL.out)
    obtain ⟨yBL_r7_0, yBL_r7_1, yBL_r7_2, yBL_r7_3, yBL_r7_4, yBL_r7_5, yBL_r7_6, yBL_r7_7, yBL_r7_8, yBL_r7_9, yBL_r7_10, yBL_r7_11⟩ := KBL_r7.out.c12
    have KBM_r7 := Ho.mk (hm.out)
    obtain ⟨yBM_r7_0, yBM_r7_1, yBM_r7_2⟩ := KBM_r7.out.c3
    refine wp_region_held_drew (S := fun w' => Bel wr w') (by kernel_rfl) (Bel.refl _).drew (fun hHeld => ?_)
    (try dsimp only at hHeld)
    refine rt (i := 0) hHeld ?_
    refine rt (i := 1) hHeld ?_
    refine rt (i := 2) hHeld ?_
    refine rt (i := 3) hHeld ?_
    refine rl (i := 4) (v := ?_) hHeld (fun w hSw => ?_) ?_
    rotate_left
    ·(have z6 := hSw.cell yBL_r7_6; have z7 := hSw.cell yBL_r7_7; have z8 := hSw.cell yBL_r7_8; go_simp; try (with_reducible rfl))
    refine rl (i := 5) (v := ?_) hHeld (fun w hSw => ?_) ?_
    rotate_left
    ·(have z0 := hSw.cell yBM_r7_0; have z1 := hSw.cell yBM_r7_1; have z2 := hSw.cell yBM_r7_2; go_simp; try (with_reducible rfl))
    try simp only [Act.put, Ow.zS, Ow.zC, Ow.zD]
    refine rc (i := 6) (fun K hK => ?_)
    go_simp
    go_at_call 176
    (with_reducible refine (F1.dCmp (HT.out.bel ((Bel.refl _).drew)) ((DB.dv HE2.out).bel ((Bel.refl _).drew)) ((DB.dv hd.out).bel ((Bel.refl _).drew)) hb hb HRR.out).mono ?_); rintro e w1 ⟨rfl, b1⟩
    try go_wp2_with fail
    refine hK.out _ _ (Bel.trans hHeld b1) (fun hHeld => ?_)
    clear hK K
    refine rt (i := 7) hHeld ?_
    try simp only [Act.put, Ow.zS, Ow.zC, Ow.zD]
    refine wpAnyH_done (by kernel_rfl) ?_ _
    have BT := Ho.mk (((Bel.refl _).drew).trans b1)
    clear b1
    go_wp2
    go_roundw
    case rel =>
     have hp : hi2 m p2 = m := if_neg (by rw [HRR.out]; omega)
     exact ⟨3, m, A, c, rfl, ⟨.inr (.inr (.inl ⟨rfl, by rw [← HEM.out, hp]⟩))⟩, ⟨hm.out.bel BT.out⟩, ⟨DB.bel hd.out BT.out⟩, ⟨hg.out.trans (BT.out.gr _)⟩⟩
    case measure => simp [intOf]
  ·have HE3 := Ho.mk (DB.gr (DB.bel HQ3.out HG0.out) hg.out (by omega) (by omega))
   have HEM := Ho.mk e
   clear hk e
   obtain ⟨r, hr⟩ : ∃ r, cmpI p3 m = r := ⟨_, rfl⟩
   have HRR := Ho.mk hr
   by_cases hc : 0 < r
   ·have dc : decide (0 < r) = true := decide_eq_true hc
    clear hr
    go_wp2_with fail
    have KBL_r7 := Ho.mk (KBL.out)
    obtain ⟨yBL_r7_0, yBL_r7_1, yBL_r7_2, yBL_r7_3, yBL_r7_4, yBL_r7_5, yBL_r7_6, yBL_r7_7, yBL_r7_8, yBL_r7_9, yBL_r7_10, yBL_r7_11⟩ := KBL_r7.out.c12
    have KBM_r7 := Ho.mk (hm.out)
    obtain ⟨yBM_r7_0, yBM_r7_1, yBM_r7_2⟩ := KBM_r7.out.c3
    refine wp_region_held_drew (S := fun w' => Bel wr w') (by kernel_rfl) (Bel.refl _).drew (fun hHeld => ?_)
    (try dsimp only at hHeld)
    refine rt (i := 0) hHeld ?_
    refine rt (i := 1) hHeld ?_
    refine rt (i := 2) hHeld ?_
    refine rt (i := 3) hHeld ?_
    refine rl (i := 4) (v := ?_) hHeld (fun w hSw => ?_) ?_
    rotate_left
    ·(have z9 := hSw.cell yBL_r7_9; have z10 := hSw.cell yBL_r7_10; have z11 := hSw.cell yBL_r7_11; go_simp; try (with_reducible rfl))
    refine rl (i := 5) (v := ?_) hHeld (fun w hSw => ?_) ?_
    rotate_left
    ·(have z0 := hSw.cell yBM_r7_0; have z1 := hSw.cell yBM_r7_1; have z2 := hSw.cell yBM_r7_2; go_simp; try (with_reducible rfl))
    try simp only [Act.put, Ow.zS, Ow.zC, Ow.zD]
    refine rc (i := 6) (fun K hK => ?_)
    go_simp
    go_at_call 176
    (with_reducible refine (F1.dCmp (HT.out.bel ((Bel.refl _).drew)) ((DB.dv HE3.out).bel ((Bel.refl _).drew)) ((DB.dv hd.out).bel ((Bel.refl _).drew)) hb hb HRR.out).mono ?_); rintro e w1 ⟨rfl, b1⟩
    try go_wp2_with fail
    refine hK.out _ _ (Bel.trans hHeld b1) (fun hHeld => ?_)
    clear hK K
    refine rt (i := 7) hHeld ?_
    try simp only [Act.put, Ow.zS, Ow.zC, Ow.zD]
    refine wpAnyH_done (by kernel_rfl) ?_ _
    have BT := Ho.mk (((Bel.refl _).drew).trans b1)
    clear b1
    have KL1 := Ho.mk (KBL.out.bel BT.out)
    have KM1 := Ho.mk (hm.out.bel BT.out)
    have x0 := KL1.out.cell (i := 9) rfl
    have y0 := KM1.out.cell (i := 0) rfl
    have z0 := KM1.out.free 0
    have x1 := KL1.out.cell (i := 10) rfl
    have y1 := KM1.out.cell (i := 1) rfl
    have z1 := KM1.out.free 1
    have x2 := KL1.out.cell (i := 11) rfl
    have y2 := KM1.out.cell (i := 2) rfl
    have z2 := KM1.out.free 2
    go_wp2
    go_roundw
    case rel =>
     have hp : hi2 m p3 = p3 := if_pos (by rw [HRR.out]; omega)
     exact ⟨4, p3, A3, c3, rfl, ⟨.inr (.inr (.inr (⟨rfl, by rw [← HEM.out, hp]⟩)))⟩, ⟨blk_set3 KM1.out _ _ _⟩, ⟨DB.gr (DB.bel HE3.out BT.out) (set3_gr (Gr.refl _ _) _ _ _) (by omega) (by have := BT.out.size; omega)⟩, ⟨set3_gr (hg.out.trans (BT.out.gr _)) _ _ _⟩⟩
    case measure => simp [intOf]
   ·have dc : decide (0 < r) = false := decide_eq_false hc
    clear hr
    go_wp2_with fail
    have KBL_r7 := Ho.mk (KBL.out)
    obtain ⟨yBL_r7_0, yBL_r7_1, yBL_r7_2, yBL_r7_3, yBL_r7_4, yBL_r7_5, yBL_r7_6, yBL_r7_7, yBL_r7_8, yBL_r7_9, yBL_r7_10, yBL_r7_11⟩ := KBL_r7.out.c12
    have KBM_r7 := Ho.mk (hm.out)
    obtain ⟨yBM_r7_0, yBM_r7_1, yBM_r7_2⟩ := KBM_r7.out.c3
    refine wp_region_held_drew (S := fun w' => Bel wr w') (by kernel_rfl) (Bel.refl _).drew (fun hHeld => ?_)
    (try dsimp only at hHeld)
    refine rt (i := 0) hHeld ?_
    refine rt (i := 1) hHeld ?_
    refine rt (i := 2) hHeld ?_
    refine rt (i := 3) hHeld ?_
    refine rl (i := 4) (v := ?_) hHeld (fun w hSw => ?_) ?_
    rotate_left
    ·(have z9 := hSw.cell yBL_r7_9; have z10 := hSw.cell yBL_r7_10; have z11 := hSw.cell yBL_r7_11; go_simp; try (with_reducible rfl))
    refine rl (i := 5) (v := ?_) hHeld (fun w hSw => ?_) ?_
    rotate_left
    ·(have z0 := hSw.cell yBM_r7_0; have z1 := hSw.cell yBM_r7_1; have z2 := hSw.cell yBM_r7_2; go_simp; try (with_reducible rfl))
    try simp only [Act.put, Ow.zS, Ow.zC, Ow.zD]
    refine rc (i := 6) (fun K hK => ?_)
    go_simp
    go_at_call 176
    (with_reducible refine (F1.dCmp (HT.out.bel ((Bel.refl _).drew)) ((DB.dv HE3.out).bel ((Bel.refl _).drew)) ((DB.dv hd.out).bel ((Bel.refl _).drew)) hb hb HRR.out).mono ?_); rintro e w1 ⟨rfl, b1⟩
    try go_wp2_with fail
    refine hK.out _ _ (Bel.trans hHeld b1) (fun hHeld => ?_)
    clear hK K
    refine rt (i := 7) hHeld ?_
    try simp only [Act.put, Ow.zS, Ow.zC, Ow.zD]
    refine wpAnyH_done (by kernel_rfl) ?_ _
    have BT := Ho.mk (((Bel.refl _).drew).trans b1)
    clear b1
    go_wp2
    go_roundw
    case rel =>
     have hp : hi2 m p3 = m := if_neg (by rw [HRR.out]; omega)
     exact ⟨4, m, A, c, rfl, ⟨.inr (.inr (.inr (⟨rfl, by rw [← HEM.out, hp]⟩)))⟩, ⟨hm.out.bel BT.out⟩, ⟨DB.bel hd.out BT.out⟩, ⟨hg.out.trans (BT.out.gr _)⟩⟩
    case measure => simp [intOf]
  ·have HEM := Ho.mk e
   have KM0 := Ho.mk (hg.out.blk HR0.out (by omega))
   have HX0 := Ho.mk hm.out
   clear hk e
   obtain ⟨y0, y1, y2⟩ := HX0.out.c3
   obtain ⟨yr0, yr1, yr2⟩ := KM0.out.c3
   have zr0 := KM0.out.free 0
   have zr1 := KM0.out.free 1
   have zr2 := KM0.out.free 2
   have BW : Ho (Bel w wr) := ⟨⟨hg.out.below HG0.out.out (by omega) (by omega)⟩⟩
   go_wp2
   rw [← HEM.out]
   exact I0.gives_endD (fn := Tryz.f224) rfl rfl BW.out (by omega) KM0.out (DB.dv hd.out)
end I4
namespace J1
open Go Go.RowKit Go.Proofs.YtalbgklfhabnkaaGreatDoor Ow Pl Dp Dt D3 F1 T0 I0 I4 V1
attribute [local go_sem ↓] Go.wp_at_zero Go.wp_at_succ
structure Dc where
 A : Option Addr
 c : Nat
 v : Int
def Dc.enc (x : Dc) : Array Value := #[.agg #[.bool (dneg x.v), .slice x.A (digs (dm x.v)).length x.c, .int .i64 (de x.v)]]
def prods (a b : Iv) : List Int := [mulD a.1 b.1, mulD a.1 b.2, mulD a.2 b.1, mulD a.2 b.2]
structure Wk (ks : List Nat) (w w' : World) : Prop where
 size : w.heap.size ≤ w'.heap.size
 block : ∀ k, k < w.heap.size → w'.heap[k]? = w.heap[k]? ∨ (NI w k ∧ k ∈ ks)
theorem Wk.refl (ks : List Nat) (w : World) : Wk ks w w := ⟨Nat.le_refl _, fun _ _ => .inl rfl⟩
theorem Wk.bel {ks : List Nat} {u v w : World} (h : Wk ks u v) (g : Bel v w) : Wk ks u w := ⟨Nat.le_trans h.size g.size, fun k hk => (h.block k hk).imp (fun e => (g.out.block k (Nat.lt_of_lt_of_le hk h.size)).trans e) id⟩
theorem Wk.yd {ks O : List Nat} {u v w : World} (h : Wk ks u v) (g : Yd ks O u.heap.size v w) : Wk ks u w := ⟨Nat.le_trans h.size g.size, fun k hk => by
 rcases h.block k hk with e | e
 ·rcases g.block k (Nat.lt_of_lt_of_le hk h.size) with q | ⟨q1, q2, q3 | q3⟩
  ·exact .inl (q.trans e)
  ·exact .inr ⟨ni_same e.symm q1, q3⟩
  ·omega
 ·exact .inr e⟩
theorem Wk.blk {ks : List Nat} {u v : World} {b : Nat} {t : TypeId} {cs : List Value} (h : Wk ks u v) (hb : b ∉ ks) (k : Blk u b t cs) : Blk v b t cs := by
 rcases h.block b k.lt with e | e
 ·exact blk_keep k e
 ·exact (hb e.2).elim
theorem Wk.dv {ks : List Nat} {u v : World} {A : Option Addr} {c : Nat} {x : Int} {L U : Nat} (h : Wk ks u v) (k : Dv u A c x L U) : Dv v A c x L U := dv_keep k fun i hi => (h.block i hi).imp id (·.1)
theorem Wk.tab {ks : List Nat} {u v : World} (h : Wk ks u v) (hb : 1 ∉ ks) (k : Tab u) : Tab v := by
 rcases h.block 1 (I4.Tab.lt k) with e | e
 ·exact ⟨fun i hi => by have := k.cell i hi; unfold World.cell? at this ⊢; rw [e]; exact this⟩
 ·exact (hb e.2).elim
theorem yd_blk {ks O : List Nat} {B : Nat} {u v : World} {b : Nat} {t : TypeId} {cs : List Value} (h : Yd ks O B u v) (hb : b ∈ O) (k : Blk u b t cs) : Blk v b t cs := by
 rcases h.block b k.lt with e | ⟨_, e, _⟩
 ·exact blk_keep k e
 ·exact (e hb).elim
theorem corners1 {A0 B0 : Option Addr} {c0 d0 : Nat} {a : Iv} {L0 U0 : Nat} {A1 B1 : Option Addr} {c1 d1 : Nat} {b : Iv} {L1 U1 : Nat} {ba bb : Nat} {ks : List Nat} (n l : Nat) (hn : 1 ≤ n) (W : World) (T : Tab W)
  (KA : Blk W ba 42 [.bool (dneg a.1), .slice A0 (digs (dm a.1)).length c0, .int .i64 (de a.1), .bool (dneg a.2), .slice B0 (digs (dm a.2)).length d0, .int .i64 (de a.2)])
  (KB : Blk W bb 42 [.bool (dneg b.1), .slice A1 (digs (dm b.1)).length c1, .int .i64 (de b.1), .bool (dneg b.2), .slice B1 (digs (dm b.2)).length d1, .int .i64 (de b.2)])
  (p0l : Dv W A0 c0 a.1 L0 U0) (p0h : Dv W B0 d0 a.2 L0 U0) (hL0 : L0 ≤ 3000) (hU0 : U0 ≤ 3000) (p1l : Dv W A1 c1 b.1 L1 U1) (p1h : Dv W B1 d1 b.2 L1 U1) (hL1 : L1 ≤ 3000) (hU1 : U1 ≤ 3000) (hka : ba ∉ ks) (hkb : bb ∉ ks) (hk2 : 1 ∉ ks) :
  SeqB Tryz.prog n l 228 #[.pointer (some ⟨ba, 0, none⟩), .pointer (some ⟨bb, 0, none⟩)] Dc.enc ks 4 (fun pre x W1 => (prods a b)[pre.length]? = some x.v ∧ Dv W1 x.A x.c x.v (L0 + L1) (U0 + U1)) (fun ys => ys.map Dc.v = prods a b) (fun _ => True) W := by
 intro J Jx _ hJ hJx hY h0
 have TT := Ho.mk T
 have PAl := Ho.mk p0l
 have PAh := Ho.mk p0h
 have PBl := Ho.mk p1l
 have PBh := Ho.mk p1h
 have HKA := Ho.mk KA
 have HKB := Ho.mk KB
 have HY := Ho.mk hY
 have H0 := Ho.mk h0
 clear T p0l p0h p1l p1h hY h0
 obtain ⟨y0, y1, y2, y3, y4, y5⟩ := KA.c6
 clear KA KB
 refine callsIn_wide.2 ?_
 go_enter Tryz.func228, Tryz.ntmps228
 refine (wpIn_wide (n := n)).1 ?_
 gi_wp2_with fail
 --## loops
 clear y0 y1 y2 y3 y4 y5
 have hl0 := Ho.mk (Blk.new W [.bool (dneg a.1), .slice A0 (digs (dm a.1)).length c0, .int .i64 (de a.1), .bool (dneg a.2), .slice B0 (digs (dm a.2)).length d0, .int .i64 (de a.2)] 37)
 have hJ0 := Ho.mk (hJ _ _ _ [W.heap.size] _ H0.out (St.of_bel ((Bel.refl W).alloc (.cells #[.bool (dneg a.1), .slice A0 (digs (dm a.1)).length c0, .int .i64 (de a.1), .bool (dneg a.2), .slice B0 (digs (dm a.2)).length d0, .int .i64 (de a.2)] 37)) _) (by simp) (by intro q hq; simp at hq; right; simp [hq]))
 have hw0 := Ho.mk ((Wk.refl ks W).bel ((Bel.refl W).alloc (.cells #[.bool (dneg a.1), .slice A0 (digs (dm a.1)).length c0, .int .i64 (de a.1), .bool (dneg a.2), .slice B0 (digs (dm a.2)).length d0, .int .i64 (de a.2)] 37)))
 generalize W.alloc (.cells #[.bool (dneg a.1), .slice A0 (digs (dm a.1)).length c0, .int .i64 (de a.1), .bool (dneg a.2), .slice B0 (digs (dm a.2)).length d0, .int .i64 (de a.2)] 37) = w0 at *
 gi_loopw [14] (fun i wr => ∃ (z : Int) (k : Nat) (pre : List Dc) (O : List Nat), i = .int .i64 z ∧ ((z = 0 ∧ k = 0) ∨ (z = 1 ∧ k = 1) ∨ (z = 2 ∧ k = 2)) ∧ Ho (pre.map Dc.v = (prods a b).take (2 * k)) ∧ Ho (J pre O wr) ∧ Ho (Wk ks W wr) ∧ Ho (Blk wr W.heap.size 37 [.bool (dneg a.1), .slice A0 (digs (dm a.1)).length c0, .int .i64 (de a.1), .bool (dneg a.2), .slice B0 (digs (dm a.2)).length d0, .int .i64 (de a.2)]) ∧ W.heap.size ∈ O ∧ (∀ q ∈ O, W.heap.size ≤ q)) (fun i _ => (2 - intOf i).toNat)
 case atStart => exact ⟨0, 0, [], [W.heap.size], rfl, by omega, ⟨rfl⟩, hJ0, hw0, hl0, by simp, by simp⟩
 case round =>
  clear hJ0 hw0 hl0 H0
  obtain ⟨z, k, pre, O, rfl, hk, hpre, hj, hw, hl, hlO, hO⟩ := hrel
  have hkb2 := Ho.mk (hw.out.blk hkb HKB.out)
  have y0 := hl.out.cell (i := 0) rfl
  have x0 := fun o => (hkb2.out.bel ((Bel.refl wr).alloc o)).cell (i := 0) rfl
  have y1 := hl.out.cell (i := 1) rfl
  have x1 := fun o => (hkb2.out.bel ((Bel.refl wr).alloc o)).cell (i := 1) rfl
  have y2 := hl.out.cell (i := 2) rfl
  have x2 := fun o => (hkb2.out.bel ((Bel.refl wr).alloc o)).cell (i := 2) rfl
  have y3 := hl.out.cell (i := 3) rfl
  have x3 := fun o => (hkb2.out.bel ((Bel.refl wr).alloc o)).cell (i := 3) rfl
  have y4 := hl.out.cell (i := 4) rfl
  have x4 := fun o => (hkb2.out.bel ((Bel.refl wr).alloc o)).cell (i := 4) rfl
  have y5 := hl.out.cell (i := 5) rfl
  have x5 := fun o => (hkb2.out.bel ((Bel.refl wr).alloc o)).cell (i := 5) rfl
  rcases hk with ⟨rfl, rfl⟩ | ⟨rfl, rfl⟩ | ⟨rfl, rfl⟩
  ·gi_wp2
   clear y0 y1 y2 y3 y4 y5 x0 x1 x2 x3 x4 x5
   have g2 := ((Bel.refl wr).alloc (.cells #[.bool (dneg a.1), .slice A0 (digs (dm a.1)).length c0, .int .i64 (de a.1)] 37)).alloc (.cells #[.bool (dneg b.1), .slice A1 (digs (dm b.1)).length c1, .int .i64 (de b.1), .bool (dneg b.2), .slice B1 (digs (dm b.2)).length d1, .int .i64 (de b.2)] 37)
   have h5 := Ho.mk ((Blk.new wr [.bool (dneg a.1), .slice A0 (digs (dm a.1)).length c0, .int .i64 (de a.1)] 37).old (.cells #[.bool (dneg b.1), .slice A1 (digs (dm b.1)).length c1, .int .i64 (de b.1), .bool (dneg b.2), .slice B1 (digs (dm b.2)).length d1, .int .i64 (de b.2)] 37))
   have h22 := Ho.mk (Blk.new (wr.alloc (.cells #[.bool (dneg a.1), .slice A0 (digs (dm a.1)).length c0, .int .i64 (de a.1)] 37)) [.bool (dneg b.1), .slice A1 (digs (dm b.1)).length c1, .int .i64 (de b.1), .bool (dneg b.2), .slice B1 (digs (dm b.2)).length d1, .int .i64 (de b.2)] 37)
   rw [World.size_alloc] at h22
   have szw := hw.out.size
   have hj2 := Ho.mk (hJ _ _ _ (O ++ [wr.heap.size, wr.heap.size + 1]) _ hj.out (St.of_bel g2 _) (by intro q hq; simp [hq]) (by intro q hq; simp at hq; rcases hq with hq | hq | hq <;> first | exact .inl hq | exact .inr ⟨by omega, by simp only [World.size_alloc]; omega⟩))
   have hw2 := Ho.mk (hw.out.bel g2)
   have hl2 := Ho.mk (hl.out.bel g2)
   have hO2 : ∀ q ∈ O ++ [wr.heap.size, wr.heap.size + 1], W.heap.size ≤ q := by intro q hq; simp at hq; rcases hq with hq | hq | hq <;> first | exact hO q hq | omega
   have m1 : W.heap.size ∈ O ++ [wr.heap.size, wr.heap.size + 1] := by simp [hlO]
   have m2 : wr.heap.size ∈ O ++ [wr.heap.size, wr.heap.size + 1] := by simp
   have m3 : wr.heap.size + 1 ∈ O ++ [wr.heap.size, wr.heap.size + 1] := by simp
   try simp only [World.size_alloc]
   generalize (wr.alloc (.cells #[.bool (dneg a.1), .slice A0 (digs (dm a.1)).length c0, .int .i64 (de a.1)] 37)).alloc (.cells #[.bool (dneg b.1), .slice A1 (digs (dm b.1)).length c1, .int .i64 (de b.1), .bool (dneg b.2), .slice B1 (digs (dm b.2)).length d1, .int .i64 (de b.2)] 37) = w2 at *
   generalize O ++ [wr.heap.size, wr.heap.size + 1] = O2 at *
   generalize hb22 : wr.heap.size + 1 = b22 at *
   generalize wr.heap.size = b5 at *
   clear g2 hj hw hl hlO hO szw hkb2
   gi_loopw [24] (fun i wr => ∃ (z : Int) (k : Nat) (pre : List Dc) (O : List Nat), i = .int .i64 z ∧ ((z = 0 ∧ k = 0) ∨ (z = 1 ∧ k = 1) ∨ (z = 2 ∧ k = 2)) ∧ Ho (pre.map Dc.v = (prods a b).take (0 + k)) ∧ Ho (J pre O wr) ∧ Ho (Wk ks W wr) ∧ Ho (Blk wr W.heap.size 37 [.bool (dneg a.1), .slice A0 (digs (dm a.1)).length c0, .int .i64 (de a.1), .bool (dneg a.2), .slice B0 (digs (dm a.2)).length d0, .int .i64 (de a.2)]) ∧ W.heap.size ∈ O ∧ (∀ q ∈ O, W.heap.size ≤ q) ∧ Ho (Blk wr b5 37 [.bool (dneg a.1), .slice A0 (digs (dm a.1)).length c0, .int .i64 (de a.1)]) ∧ b5 ∈ O ∧ Ho (Blk wr b22 37 [.bool (dneg b.1), .slice A1 (digs (dm b.1)).length c1, .int .i64 (de b.1), .bool (dneg b.2), .slice B1 (digs (dm b.2)).length d1, .int .i64 (de b.2)]) ∧ b22 ∈ O) (fun i _ => (2 - intOf i).toNat)
   case atStart => exact ⟨0, 0, pre, O2, rfl, by omega, hpre, hj2, hw2, hl2, m1, hO2, h5, m2, h22, m3⟩
   case round =>
    clear hj2 hw2 hl2 hO2 h5 h22 hpre m1 m2 m3
    obtain ⟨z, k, pre, O, rfl, hk, hpre, hj, hw, hl, hlO, hO, h5, m5, h22, m22⟩ := hrel
    obtain ⟨x0, x1, x2, x3, x4, x5⟩ := h22.out.c6
    have y0 := fun o => (h5.out.bel ((Bel.refl wr).alloc o)).cell (i := 0) rfl
    have y1 := fun o => (h5.out.bel ((Bel.refl wr).alloc o)).cell (i := 1) rfl
    have y2 := fun o => (h5.out.bel ((Bel.refl wr).alloc o)).cell (i := 2) rfl
    rcases hk with ⟨rfl, rfl⟩ | ⟨rfl, rfl⟩ | ⟨rfl, rfl⟩
    ·gi_wp2_with fail
     --@@00
     have szw := hw.out.size
     have g3 := (Bel.refl wr).alloc (.cells #[.bool (dneg b.1), .slice A1 (digs (dm b.1)).length c1, .int .i64 (de b.1)] 37)
     refine ⟨trivial, (callsIn_wide.2 (F1.dMul ((hw.out.bel g3).tab hk2 TT.out) ((hw.out.bel g3).dv PAl.out) ((hw.out.bel g3).dv PBl.out) (by omega) (by omega))).mono ?_⟩
     rintro e w3 ⟨A3, c3, rfl, n3, b3⟩
     have g4 := g3.trans b3
     have hj3 := hJ _ _ _ O _ hj.out (St.of_bel g4 _) (fun _ h => h) (fun _ h => .inl h)
     have hlen : pre.length = 0 := by have := congrArg List.length hpre.out; simpa [prods] using this
     obtain ⟨fn, tmps, assign, body, hy, hR⟩ := HY.out pre O ⟨A3, c3, mulD a.1 b.1⟩ w3 hj3 (by omega) ⟨by rw [hlen]; rfl, n3⟩ hO (Nat.le_trans szw g4.size)
     dsimp only [Dc.enc] at hy
     gi_wp2
     refine hR.mono ?_
     rintro e w4 (⟨rfl, hJ4, hY4⟩ | ⟨rfl, hJ4, hY4⟩)
     ·gi_wp2
      go_roundw
      case rel => exact ⟨1, 1, pre ++ [⟨A3, c3, mulD a.1 b.1⟩], O, rfl, by omega, ⟨by rw [List.map_append, hpre.out]; rfl⟩, ⟨hJ4⟩, ⟨(hw.out.bel g4).yd hY4⟩, ⟨yd_blk hY4 hlO (hl.out.bel g4)⟩, hlO, hO, ⟨yd_blk hY4 m5 (h5.out.bel g4)⟩, m5, ⟨yd_blk hY4 m22 (h22.out.bel g4)⟩, m22⟩
      case measure => simp [intOf]
     ·gi_wp2
      refine bodyPost_ret (results_none rfl _ _ _) rfl ?_
      exact ⟨⟨_, rfl⟩, .inr ⟨_, O, trivial, hJ4, hO⟩⟩
    ·gi_wp2_with fail
     --@@01
     have szw := hw.out.size
     have g3 := (Bel.refl wr).alloc (.cells #[.bool (dneg b.2), .slice B1 (digs (dm b.2)).length d1, .int .i64 (de b.2)] 37)
     refine ⟨trivial, (callsIn_wide.2 (F1.dMul ((hw.out.bel g3).tab hk2 TT.out) ((hw.out.bel g3).dv PAl.out) ((hw.out.bel g3).dv PBh.out) (by omega) (by omega))).mono ?_⟩
     rintro e w3 ⟨A3, c3, rfl, n3, b3⟩
     have g4 := g3.trans b3
     have hj3 := hJ _ _ _ O _ hj.out (St.of_bel g4 _) (fun _ h => h) (fun _ h => .inl h)
     have hlen : pre.length = 1 := by have := congrArg List.length hpre.out; simpa [prods] using this
     obtain ⟨fn, tmps, assign, body, hy, hR⟩ := HY.out pre O ⟨A3, c3, mulD a.1 b.2⟩ w3 hj3 (by omega) ⟨by rw [hlen]; rfl, n3⟩ hO (Nat.le_trans szw g4.size)
     dsimp only [Dc.enc] at hy
     gi_wp2
     refine hR.mono ?_
     rintro e w4 (⟨rfl, hJ4, hY4⟩ | ⟨rfl, hJ4, hY4⟩)
     ·gi_wp2
      go_roundw
      case rel => exact ⟨2, 2, pre ++ [⟨A3, c3, mulD a.1 b.2⟩], O, rfl, by omega, ⟨by rw [List.map_append, hpre.out]; rfl⟩, ⟨hJ4⟩, ⟨(hw.out.bel g4).yd hY4⟩, ⟨yd_blk hY4 hlO (hl.out.bel g4)⟩, hlO, hO, ⟨yd_blk hY4 m5 (h5.out.bel g4)⟩, m5, ⟨yd_blk hY4 m22 (h22.out.bel g4)⟩, m22⟩
      case measure => simp [intOf]
     ·gi_wp2
      refine bodyPost_ret (results_none rfl _ _ _) rfl ?_
      exact ⟨⟨_, rfl⟩, .inr ⟨_, O, trivial, hJ4, hO⟩⟩
    ·gi_wp2
     go_roundw
     case rel => exact ⟨1, 1, pre, O, rfl, by omega, hpre, hj, hw, hl, hlO, hO⟩
     case measure => simp [intOf]
  ·gi_wp2
   clear y0 y1 y2 y3 y4 y5 x0 x1 x2 x3 x4 x5
   have g2 := ((Bel.refl wr).alloc (.cells #[.bool (dneg a.2), .slice B0 (digs (dm a.2)).length d0, .int .i64 (de a.2)] 37)).alloc (.cells #[.bool (dneg b.1), .slice A1 (digs (dm b.1)).length c1, .int .i64 (de b.1), .bool (dneg b.2), .slice B1 (digs (dm b.2)).length d1, .int .i64 (de b.2)] 37)
   have h5 := Ho.mk ((Blk.new wr [.bool (dneg a.2), .slice B0 (digs (dm a.2)).length d0, .int .i64 (de a.2)] 37).old (.cells #[.bool (dneg b.1), .slice A1 (digs (dm b.1)).length c1, .int .i64 (de b.1), .bool (dneg b.2), .slice B1 (digs (dm b.2)).length d1, .int .i64 (de b.2)] 37))
   have h22 := Ho.mk (Blk.new (wr.alloc (.cells #[.bool (dneg a.2), .slice B0 (digs (dm a.2)).length d0, .int .i64 (de a.2)] 37)) [.bool (dneg b.1), .slice A1 (digs (dm b.1)).length c1, .int .i64 (de b.1), .bool (dneg b.2), .slice B1 (digs (dm b.2)).length d1, .int .i64 (de b.2)] 37)
   rw [World.size_alloc] at h22
   have szw := hw.out.size
   have hj2 := Ho.mk (hJ _ _ _ (O ++ [wr.heap.size, wr.heap.size + 1]) _ hj.out (St.of_bel g2 _) (by intro q hq; simp [hq]) (by intro q hq; simp at hq; rcases hq with hq | hq | hq <;> first | exact .inl hq | exact .inr ⟨by omega, by simp only [World.size_alloc]; omega⟩))
   have hw2 := Ho.mk (hw.out.bel g2)
   have hl2 := Ho.mk (hl.out.bel g2)
   have hO2 : ∀ q ∈ O ++ [wr.heap.size, wr.heap.size + 1], W.heap.size ≤ q := by intro q hq; simp at hq; rcases hq with hq | hq | hq <;> first | exact hO q hq | omega
   have m1 : W.heap.size ∈ O ++ [wr.heap.size, wr.heap.size + 1] := by simp [hlO]
   have m2 : wr.heap.size ∈ O ++ [wr.heap.size, wr.heap.size + 1] := by simp
   have m3 : wr.heap.size + 1 ∈ O ++ [wr.heap.size, wr.heap.size + 1] := by simp
   try simp only [World.size_alloc]
   generalize (wr.alloc (.cells #[.bool (dneg a.2), .slice B0 (digs (dm a.2)).length d0, .int .i64 (de a.2)] 37)).alloc (.cells #[.bool (dneg b.1), .slice A1 (digs (dm b.1)).length c1, .int .i64 (de b.1), .bool (dneg b.2), .slice B1 (digs (dm b.2)).length d1, .int .i64 (de b.2)] 37) = w2 at *
   generalize O ++ [wr.heap.size, wr.heap.size + 1] = O2 at *
   generalize hb22 : wr.heap.size + 1 = b22 at *
   generalize wr.heap.size = b5 at *
   clear g2 hj hw hl hlO hO szw hkb2
   gi_loopw [24] (fun i wr => ∃ (z : Int) (k : Nat) (pre : List Dc) (O : List Nat), i = .int .i64 z ∧ ((z = 0 ∧ k = 0) ∨ (z = 1 ∧ k = 1) ∨ (z = 2 ∧ k = 2)) ∧ Ho (pre.map Dc.v = (prods a b).take (2 + k)) ∧ Ho (J pre O wr) ∧ Ho (Wk ks W wr) ∧ Ho (Blk wr W.heap.size 37 [.bool (dneg a.1), .slice A0 (digs (dm a.1)).length c0, .int .i64 (de a.1), .bool (dneg a.2), .slice B0 (digs (dm a.2)).length d0, .int .i64 (de a.2)]) ∧ W.heap.size ∈ O ∧ (∀ q ∈ O, W.heap.size ≤ q) ∧ Ho (Blk wr b5 37 [.bool (dneg a.2), .slice B0 (digs (dm a.2)).length d0, .int .i64 (de a.2)]) ∧ b5 ∈ O ∧ Ho (Blk wr b22 37 [.bool (dneg b.1), .slice A1 (digs (dm b.1)).length c1, .int .i64 (de b.1), .bool (dneg b.2), .slice B1 (digs (dm b.2)).length d1, .int .i64 (de b.2)]) ∧ b22 ∈ O) (fun i _ => (2 - intOf i).toNat)
   case atStart => exact ⟨0, 0, pre, O2, rfl, by omega, hpre, hj2, hw2, hl2, m1, hO2, h5, m2, h22, m3⟩
   case round =>
    clear hj2 hw2 hl2 hO2 h5 h22 hpre m1 m2 m3
    obtain ⟨z, k, pre, O, rfl, hk, hpre, hj, hw, hl, hlO, hO, h5, m5, h22, m22⟩ := hrel
    obtain ⟨x0, x1, x2, x3, x4, x5⟩ := h22.out.c6
    have y0 := fun o => (h5.out.bel ((Bel.refl wr).alloc o)).cell (i := 0) rfl
    have y1 := fun o => (h5.out.bel ((Bel.refl wr).alloc o)).cell (i := 1) rfl
    have y2 := fun o => (h5.out.bel ((Bel.refl wr).alloc o)).cell (i := 2) rfl
    rcases hk with ⟨rfl, rfl⟩ | ⟨rfl, rfl⟩ | ⟨rfl, rfl⟩
    ·gi_wp2_with fail
     --@@10
     have szw := hw.out.size
     have g3 := (Bel.refl wr).alloc (.cells #[.bool (dneg b.1), .slice A1 (digs (dm b.1)).length c1, .int .i64 (de b.1)] 37)
     refine ⟨trivial, (callsIn_wide.2 (F1.dMul ((hw.out.bel g3).tab hk2 TT.out) ((hw.out.bel g3).dv PAh.out) ((hw.out.bel g3).dv PBl.out) (by omega) (by omega))).mono ?_⟩
     rintro e w3 ⟨A3, c3, rfl, n3, b3⟩
     have g4 := g3.trans b3
     have hj3 := hJ _ _ _ O _ hj.out (St.of_bel g4 _) (fun _ h => h) (fun _ h => .inl h)
     have hlen : pre.length = 2 := by have := congrArg List.length hpre.out; simpa [prods] using this
     obtain ⟨fn, tmps, assign, body, hy, hR⟩ := HY.out pre O ⟨A3, c3, mulD a.2 b.1⟩ w3 hj3 (by omega) ⟨by rw [hlen]; rfl, n3⟩ hO (Nat.le_trans szw g4.size)
     dsimp only [Dc.enc] at hy
     gi_wp2
     refine hR.mono ?_
     rintro e w4 (⟨rfl, hJ4, hY4⟩ | ⟨rfl, hJ4, hY4⟩)
     ·gi_wp2
      go_roundw
      case rel => exact ⟨1, 1, pre ++ [⟨A3, c3, mulD a.2 b.1⟩], O, rfl, by omega, ⟨by rw [List.map_append, hpre.out]; rfl⟩, ⟨hJ4⟩, ⟨(hw.out.bel g4).yd hY4⟩, ⟨yd_blk hY4 hlO (hl.out.bel g4)⟩, hlO, hO, ⟨yd_blk hY4 m5 (h5.out.bel g4)⟩, m5, ⟨yd_blk hY4 m22 (h22.out.bel g4)⟩, m22⟩
      case measure => simp [intOf]
     ·gi_wp2
      refine bodyPost_ret (results_none rfl _ _ _) rfl ?_
      exact ⟨⟨_, rfl⟩, .inr ⟨_, O, trivial, hJ4, hO⟩⟩
    ·gi_wp2_with fail
     --@@11
     have szw := hw.out.size
     have g3 := (Bel.refl wr).alloc (.cells #[.bool (dneg b.2), .slice B1 (digs (dm b.2)).length d1, .int .i64 (de b.2)] 37)
     refine ⟨trivial, (callsIn_wide.2 (F1.dMul ((hw.out.bel g3).tab hk2 TT.out) ((hw.out.bel g3).dv PAh.out) ((hw.out.bel g3).dv PBh.out) (by omega) (by omega))).mono ?_⟩
     rintro e w3 ⟨A3, c3, rfl, n3, b3⟩
     have g4 := g3.trans b3
     have hj3 := hJ _ _ _ O _ hj.out (St.of_bel g4 _) (fun _ h => h) (fun _ h => .inl h)
     have hlen : pre.length = 3 := by have := congrArg List.length hpre.out; simpa [prods] using this
     obtain ⟨fn, tmps, assign, body, hy, hR⟩ := HY.out pre O ⟨A3, c3, mulD a.2 b.2⟩ w3 hj3 (by omega) ⟨by rw [hlen]; rfl, n3⟩ hO (Nat.le_trans szw g4.size)
     dsimp only [Dc.enc] at hy
     gi_wp2
     refine hR.mono ?_
     rintro e w4 (⟨rfl, hJ4, hY4⟩ | ⟨rfl, hJ4, hY4⟩)
     ·gi_wp2
      go_roundw
      case rel => exact ⟨2, 2, pre ++ [⟨A3, c3, mulD a.2 b.2⟩], O, rfl, by omega, ⟨by rw [List.map_append, hpre.out]; rfl⟩, ⟨hJ4⟩, ⟨(hw.out.bel g4).yd hY4⟩, ⟨yd_blk hY4 hlO (hl.out.bel g4)⟩, hlO, hO, ⟨yd_blk hY4 m5 (h5.out.bel g4)⟩, m5, ⟨yd_blk hY4 m22 (h22.out.bel g4)⟩, m22⟩
      case measure => simp [intOf]
     ·gi_wp2
      refine bodyPost_ret (results_none rfl _ _ _) rfl ?_
      exact ⟨⟨_, rfl⟩, .inr ⟨_, O, trivial, hJ4, hO⟩⟩
    ·gi_wp2
     go_roundw
     case rel => exact ⟨2, 2, pre, O, rfl, by omega, hpre, hj, hw, hl, hlO, hO⟩
     case measure => simp [intOf]
  ·gi_wp2
   go_end0
   exact ⟨⟨_, rfl⟩, .inl ⟨pre, O, hpre.out, hj.out, hO⟩⟩
end J1
namespace J2
open Go Go.RowKit Go.Proofs Go.Proofs.YtalbgklfhabnkaaGreatDoor Ow Pl Dp Dt D3 F1 T0 I0 I4 V1 J1
attribute [local go_sem ↓] Go.wp_at_zero Go.wp_at_succ
def NP (l : List Value) : Prop := ∀ x ∈ l, ∀ z : Int, x = Value.int .i64 z → z ≤ 0
theorem NP.app {a b : List Value} (h : NP a) (k : NP b) : NP (a ++ b) := fun x hx => (List.mem_append.1 hx).elim (h x) (k x)
theorem np_zero {zs : Array Value} (h : NP zs.toList) (hs : 0 < zs.size) (n : Nat) : NP (Builtin.zeroCells zs n).toList := fun x hx z e => by
 simp only [Builtin.zeroCells, Array.toList_map, List.mem_map] at hx
 obtain ⟨i, _, rfl⟩ := hx
 rw [getElem!_pos zs (i % zs.size) (Nat.mod_lt _ hs)] at e
 exact h _ (Array.getElem_mem_toList _) z e
theorem ni_np {w : World} {g : Nat} {cur : Array Value} {t : TypeId} {fr : Nat × Nat} (h : w.heap[g]? = some (.cells cur t fr)) (hc : NP cur.toList) : NI w g := fun ad e z hq => by
 unfold World.cell? at hq; rw [e, h] at hq
 rcases ad with ⟨b', o, s⟩
 cases s <;> simp at hq
 exact hc _ (by
  rw [← Array.mem_def]; exact Array.mem_of_getElem? hq) z rfl
structure Oz (w : World) (e : TypeId) (sz : Nat) (v : Value) (n : Nat) (xs : List Value) : Prop where
 len : xs.length = n * sz
 row : (v = .slice none 0 0 ∧ n = 0) ∨ ∃ (g cap : Nat) (cur : Array Value), v = .slice (some ⟨g, 0, none⟩) n cap ∧ w.heap[g]? = some (.cells cur e (0, 0)) ∧ n ≤ cap ∧ cap ≤ maxLen ∧ cur.size = cap * sz ∧ cur.toList.take xs.length = xs ∧ NP cur.toList
theorem Oz.nil (w : World) (e : TypeId) (sz : Nat) : Oz w e sz (.slice none 0 0) 0 [] := ⟨by simp, .inl ⟨rfl, rfl⟩⟩
theorem Oz.keep {w w' : World} {e : TypeId} {sz : Nat} {v : Value} {n : Nat} {xs : List Value} (h : Oz w e sz v n xs) (k : ∀ g, v.ownBlock = some g → w'.heap[g]? = w.heap[g]?) : Oz w' e sz v n xs :=
 ⟨h.len, h.row.imp id fun ⟨g, cap, cur, h1, h2, h3⟩ => ⟨g, cap, cur, h1, (k g (by rw [h1]; rfl)).trans h2, h3⟩⟩
theorem Oz.lt {w : World} {e : TypeId} {sz : Nat} {v : Value} {n : Nat} {xs : List Value} (h : Oz w e sz v n xs) {g : Nat} (hg : v.ownBlock = some g) : g < w.heap.size := by
 rcases h.row with ⟨rfl, _⟩ | ⟨g', cap, cur, rfl, h2, _⟩
 ·cases hg
 ·cases hg; exact (Array.getElem?_eq_some_iff.1 h2).1
theorem run_app {P : Program} (w : World) (t ty e : TypeId) (i : TypeInfo) (z : Value) (sz bytes : Nat) (ht : P.underlying t = some (.slice e)) (hi : P.info? e = some i) (hz : i.zero = some z)
  (hsize : i.size = sz) (hby : i.bytes = bytes) (hzs : z.cells.size = sz) (hsz : 0 < sz) (hzn : NP z.cells.toList)
  (v : Value) (n : Nat) (xs : List Value) (hown : Oz w e sz v n xs)
  (a : Addr) (c : Nat) (news : List Value) (hl : news.length = sz) (hnews : ∀ j u, news[j]? = some u → w.cell? (a.add j) = some u) (h1 : ∀ u ∈ news, u.oneCell' = true) (hnp : NP news)
  (h63 : n ≤ 1000000) (hbytes : bytes ≤ 10000) :
  ∃ v' w', (Builtin.append_ #[t, t] ty #[v, .slice (some a) 1 c]).run P w = .ok v' w' ∧ Oz w' e sz v' (n + 1) (xs ++ news) ∧ (w'.os = w.os ∧ w'.tape = w.tape ∧ w'.output = w.output ∧ w.heap.size ≤ w'.heap.size) ∧
   (∀ k, k < w.heap.size → w'.heap[k]? = w.heap[k]? ∨ (v.ownBlock = some k ∧ NI w k)) ∧ (v'.ownBlock = v.ownBlock ∨ v'.ownBlock = some w.heap.size) := by
 subst hsize
 subst hby
 have hb2 : (n + 1) * i.bytes ≤ 140737488355328 := Nat.le_trans (Nat.mul_le_mul (show n + 1 ≤ 1000001 by omega) hbytes) (by decide)
 have hml : n + 1 ≤ maxLen := by simp only [maxLen]; omega
 have hlen : (xs ++ news).length = (n + 1) * i.size := by rw [List.length_append, hown.len, hl, Nat.add_mul, Nat.one_mul]
 have grown : ∀ old, NP xs → Oz (w.drew.alloc (.cells (xs.toArray ++ news.toArray ++ Builtin.zeroCells z.cells (grownCap w (n + 1) old e - (n + 1))) e)) e i.size (.slice (some ⟨w.heap.size, 0, none⟩) (n + 1) (grownCap w (n + 1) old e)) (n + 1) (xs ++ news) ∧
   ∀ k, k < w.heap.size → (w.drew.alloc (.cells (xs.toArray ++ news.toArray ++ Builtin.zeroCells z.cells (grownCap w (n + 1) old e - (n + 1))) e)).heap[k]? = w.heap[k]? := by
  intro old hxs
  have hge := grownCap_ge w (n + 1) old e
  refine ⟨⟨hlen, .inr ⟨w.heap.size, _, _, rfl, World.alloc_heap_new w.drew _, hge, grownCap_le_maxLen w (n + 1) old e hml, ?_, ?_, ?_⟩⟩, fun k hk => Below.heap_alloc w.drew _ _ hk⟩
  ·simp only [Array.size_append, List.size_toArray, size_zeroCells, hzs, hown.len, hl]
   rw [show n * i.size + i.size = (n + 1) * i.size by rw [Nat.add_mul, Nat.one_mul], ← Nat.add_mul]
   congr 1
   omega
  ·simp only [Array.toList_append, List.append_assoc]
   rw [← List.append_assoc]
   exact List.take_left
  ·simp only [Array.toList_append]
   exact (hxs.app hnp).app (np_zero hzn (by omega) _)
 rcases hown.row with ⟨rfl, rfl⟩ | ⟨g, cap, cur, rfl, hg, hnc, hcm, hcs, htake, hnpc⟩
 ·have hx : xs = [] := List.eq_nil_of_length_eq_zero (by simpa using hown.len)
  subst hx
  have hr := run_append_nil (P := P) w t ty e i z ht hi hz a 1 c news (by omega) hnews (by omega) (by omega) (by simp at hb2; omega)
  obtain ⟨g1, g2⟩ := grown 0 (fun x hx => by simp at hx)
  simp only [Nat.zero_add, List.nil_append, Array.empty_append] at g1 g2 ⊢
  exact ⟨_, _, hr, g1, ⟨rfl, rfl, rfl, by simp⟩, fun k hk => .inl (g2 k hk), .inr rfl⟩
 ·have hxn : NP xs := fun x hx => hnpc x (List.mem_of_mem_take (by rw [htake]; exact hx))
  by_cases hroom : n + 1 ≤ cap
  ·have hfit : n * i.size + news.length ≤ cur.size := by
    rw [hl, hcs, show n * i.size + i.size = (n + 1) * i.size by rw [Nat.add_mul, Nat.one_mul]]; exact Nat.mul_le_mul_right _ hroom
   have hr := run_append_room (P := P) w t ty e i ht hi g n cap cur hg a 1 c news (by omega) hnews h1 hroom hfit
   have e1 : cur.toList.take (n * i.size) = xs := by rw [← hown.len]; exact htake
   refine ⟨_, _, hr, ⟨hlen, .inr ⟨g, cap, _, rfl, setRow_heap w g cur _ e _ hg, hroom, hcm, ?_, ?_, ?_⟩⟩, ⟨rfl, rfl, rfl, by simp [World.setRow]⟩, fun k hk => ?_, .inl rfl⟩
   ·simp only [List.size_toArray, List.length_append, List.length_take, List.length_drop, Array.length_toList]
    omega
   ·simp only [e1]; exact List.take_left
   ·simp only [e1]
    exact (hxn.app hnp).app fun x hx => hnpc x (List.mem_of_mem_drop hx)
   ·by_cases ek : k = g
    ·subst ek; exact .inr ⟨rfl, ni_np hg hnpc⟩
    ·exact .inl (setRow_other w g k _ ek)
  ·have holds : ∀ j u, xs[j]? = some u → w.cell? ((⟨g, 0, none⟩ : Addr).add j) = some u := by
    intro j u hj
    rw [← htake, List.getElem?_take] at hj
    split at hj
    ·rw [Addr.add_lit]
     simp only [World.cell?, hg, Nat.zero_add]
     simpa using hj
    ·cases hj
   have hr := run_append_grow (P := P) w t ty e i z ht hi hz ⟨g, 0, none⟩ n cap xs hown.len holds a 1 c news (by omega) hnews (by omega) (by omega) (growslice_fits (by omega) hb2)
   obtain ⟨g1, g2⟩ := grown cap hxn
   exact ⟨_, _, hr, g1, ⟨rfl, rfl, rfl, by simp⟩, fun k hk => .inl (g2 k hk), .inr rfl⟩
theorem wpListIn_app {F : Fence} {nF : Nat} {P : Program} (w : World) {ops : Array Oper} {rest : List Oper} {o : Oper} {a : Act} {Q : Exit → Act → World → Prop}
  (hgd : o.guard = none) (s x : Operand) (t : TypeId) (ho : o.op = .call { callee := .builtin .append, args := #[s, x], argTypes := #[t, t] })
  (e : TypeId) (z : Value) (sz bytes : Nat) (ht : P.underlying t = some (.slice e)) (hinfo : (P.info? e).map (fun i => (i.zero, i.size, i.bytes)) = some (some z, sz, bytes)) (hzs : z.cells.size = sz) (hsz : 0 < sz) (hzn : NP z.cells.toList)
  (v : Value) (n : Nat) (xs : List Value) (hs : a.eval s = v) (hown : Oz w e sz v n xs)
  (ad : Addr) (c : Nat) (news : List Value) (hx : a.eval x = .slice (some ad) 1 c) (hl : news.length = sz) (hnews : ∀ j u, news[j]? = some u → w.cell? (ad.add j) = some u) (h1 : ∀ u ∈ news, u.oneCell' = true) (hnp : NP news)
  (h63 : n ≤ 1000000) (hbytes : bytes ≤ 10000)
  (hK : ∀ v' w', Oz w' e sz v' (n + 1) (xs ++ news) → (w'.os = w.os ∧ w'.tape = w.tape ∧ w'.output = w.output ∧ w.heap.size ≤ w'.heap.size) →
   (∀ k, k < w.heap.size → w'.heap[k]? = w.heap[k]? ∨ (v.ownBlock = some k ∧ NI w k)) → (v'.ownBlock = v.ownBlock ∨ v'.ownBlock = some w.heap.size) → wpListIn F nF P ops Q rest (a.put o.dst v') w') :
  wpListIn F nF P ops Q (o :: rest) a w := by
 obtain ⟨i, hi, hzz⟩ := Option.map_eq_some_iff.1 hinfo
 simp only [Prod.mk.injEq] at hzz
 obtain ⟨hz, hsz', hb⟩ := hzz
 refine wpListIn_plain hgd fun K hK' => ?_
 obtain ⟨v', w', hr, h2, h3, h4, h5⟩ := run_app (P := P) w t o.type e i z sz bytes ht hi hz hsz' hb hzs hsz hzn v n xs hown ad c news hl hnews h1 hnp h63 hbytes
 unfold Oper.wpIn
 refine ⟨by simp [Oper.about, ho, resolve, Target.leads, Sem.run_pure], ?_⟩
 rw [Oper.semAt_plain F _ _ (by rw [ho]; intro c hc'; cases hc')]
 simp [execOp, ho, resolve, invoke, builtin, hs, hx, hr, Result.andThen]
 exact hK' _ _ (hK v' w' h2 h3 h4 h5)
end J2
namespace J3
open Go Go.RowKit Go.Proofs Go.Proofs.YtalbgklfhabnkaaGreatDoor Ow Pl Dp Dt D3 F1 T0 I0 I4 V1 J1 J2
attribute [local go_sem ↓] Go.wp_at_zero Go.wp_at_succ
attribute [local go_sem] Oper.semAt_some
theorem dCorners {A0 B0 A1 B1 : Option Addr} {c0 d0 c1 d1 : Nat} {a b : Iv} (w : World) :
  Calls Tryz.prog 222 #[.agg #[.bool (dneg a.1), .slice A0 (digs (dm a.1)).length c0, .int .i64 (de a.1), .bool (dneg a.2), .slice B0 (digs (dm a.2)).length d0, .int .i64 (de a.2)], .agg #[.bool (dneg b.1), .slice A1 (digs (dm b.1)).length c1, .int .i64 (de b.1), .bool (dneg b.2), .slice B1 (digs (dm b.2)).length d1, .int .i64 (de b.2)]] w
   (fun e w' => e = .returned (.func (.func 228) #[] #[.pointer (some ⟨w.heap.size, 0, none⟩), .pointer (some ⟨w.heap.size + 1, 0, none⟩)]) ∧
    w' = (w.alloc (.cells #[.bool (dneg a.1), .slice A0 (digs (dm a.1)).length c0, .int .i64 (de a.1), .bool (dneg a.2), .slice B0 (digs (dm a.2)).length d0, .int .i64 (de a.2)] 42)).alloc (.cells #[.bool (dneg b.1), .slice A1 (digs (dm b.1)).length c1, .int .i64 (de b.1), .bool (dneg b.2), .slice B1 (digs (dm b.2)).length d1, .int .i64 (de b.2)] 42)) := by
 go_enter Tryz.func222, Tryz.ntmps222
 go_wp2
 refine bodyPost_ret (results_tmp rfl _ _ _) rfl ?_
 simp
theorem gr_ni {b : Nat} {u v : World} (g : Gr b u v) (n : NI u b) : ∀ k, k < u.heap.size → v.heap[k]? = u.heap[k]? ∨ NI u k := fun k hk => by
 by_cases e : k = b
 ·subst e; exact .inr n
 ·exact .inl (g.block k hk e)
theorem put_set {w : World} {k : Nat} {o : Obj} {p : Addr} {v : Value} (h : p.block ≠ k) : (w.setCell p v).putObj k o = (w.putObj k o).setCell p v := by
 unfold World.setCell World.putObj
 simp only [World.mk.injEq, and_self, and_true, true_and]
 apply Array.ext_getElem?
 intro i
 by_cases e : i = k
 ·subst e
  rw [Array.getElem?_modify, if_neg h]
  simp [Array.getElem?_setIfInBounds]
 ·rw [Array.getElem?_setIfInBounds_ne (Ne.symm e), Array.getElem?_modify, Array.getElem?_modify, Array.getElem?_setIfInBounds_ne (Ne.symm e)]
theorem put_set6 {w : World} {k b : Nat} {o : Obj} (h : b ≠ k) (v0 v1 v2 v3 v4 v5 : Value) : (set6 w b v0 v1 v2 v3 v4 v5).putObj k o = set6 (w.putObj k o) b v0 v1 v2 v3 v4 v5 := by
 unfold set6
 rw [put_set h, put_set h, put_set h, put_set h, put_set h, put_set h]
theorem leaveI {fn : Func} {p : Tmp} {tmps : Array Value} {w w2 : World} {b k n : Nat} {i : Iv} {A B : Option Addr} {c d L U : Nat} (hf : fn.results = #[.cell p 42]) (hp : tmps.getD p undef = .pointer (some ⟨b, 0, none⟩)) (hB : Bel w w2) (hb : w.heap.size ≤ b)
  (K : Blk w2 b 42 [.bool false, .slice none 0 0, .int .i64 0, .bool false, .slice none 0 0, .int .i64 0]) (h1 : Dv w2 A c i.1 L U) (h2 : Dv w2 B d i.2 L U) (hd : w2.heap[k]? = some (.deferred (some []))) (hk : w.heap.size ≤ k) :
  bodyPostM Fence.wide n Tryz.prog fn (MakesI w i L U) .ret { tmps := tmps, defers := [{ target := .collected k, args := #[] }] }
   ((((((w2.setCell ⟨b, 0, none⟩ (.bool (dneg i.1))).setCell ⟨b, 1, none⟩ (.slice A (digs (dm i.1)).length c)).setCell ⟨b, 2, none⟩ (.int .i64 (de i.1))).setCell ⟨b, 3, none⟩ (.bool (dneg i.2))).setCell ⟨b, 4, none⟩ (.slice B (digs (dm i.2)).length d)).setCell ⟨b, 5, none⟩ (.int .i64 (de i.2))) := by
 show bodyPostM _ _ _ _ _ _ _ (set6 w2 b (.bool (dneg i.1)) (.slice A (digs (dm i.1)).length c) (.int .i64 (de i.1)) (.bool (dneg i.2)) (.slice B (digs (dm i.2)).length d) (.int .i64 (de i.2)))
 have hbk : b ≠ k := by rintro rfl; have := K.out; rw [hd] at this; simp at this
 have nk : NI w2 k := fun ad e z hc => by unfold World.cell? at hc; rw [e, hd] at hc; simp at hc
 have st : ∀ j, j < w2.heap.size → (w2.putObj k (.deferred none)).heap[j]? = w2.heap[j]? ∨ NI w2 j := fun j hj => by
  by_cases e : j = k
  ·subst e; exact .inr nk
  ·exact .inl (World.putObj_heap_other e)
 have hd6 : (set6 w2 b (.bool (dneg i.1)) (.slice A (digs (dm i.1)).length c) (.int .i64 (de i.1)) (.bool (dneg i.2)) (.slice B (digs (dm i.2)).length d) (.int .i64 (de i.2))).heap[k]? = some (.deferred (some [])) := by
  rw [← hd]; unfold set6
  iterate 6 rw [Below.heap_setCell _ _ _ _ (by first | exact hbk | exact Ne.symm hbk)]
 have E := I0.gives_endI (fn := fn) (i := i) (w := w) (w2 := w2.putObj k (.deferred none)) hf hp ⟨⟨hB.out.os, hB.out.tape, hB.out.output, by have := hB.size; simpa using this, fun j hj => (World.putObj_heap_other (by omega)).trans (hB.out.block j hj)⟩⟩ hb (blk_keep K (World.putObj_heap_other hbk)) (dv_keep h1 st) (dv_keep h2 st)
 obtain ⟨_, v, hr, hR⟩ := E
 refine ⟨(fun h => by cases h), .inl ⟨k, _, rfl, run_takeDeferred hd6, ?_⟩⟩
 rw [put_set6 hbk]
 exact ⟨v, hr, hR⟩
theorem then_false {F : Fence} {n : Nat} {P : Program} {c : Code} {K : Act → World → Prop} {Q : Exit → Act → World → Prop} {a : Act} {w : World} (h : c.wpIn F n P (Exit.then K (fun _ _ _ => False)) a w) : c.wpIn F n P (Exit.then K Q) a w :=
 wpIn_mono h (fun e a w h => by cases e <;> first | exact h | exact False.elim h)
def cellsD : List Dc → List Value
 | [] => []
 | x :: r => .bool (dneg x.v) :: .slice x.A (digs (dm x.v)).length x.c :: .int .i64 (de x.v) :: cellsD r
theorem cellsD_app (l : List Dc) (x : Dc) : cellsD (l ++ [x]) = cellsD l ++ [.bool (dneg x.v), .slice x.A (digs (dm x.v)).length x.c, .int .i64 (de x.v)] := by
 induction l with
 | nil => rfl
 | cons y r ih => simp [cellsD, ih]
structure IM (w : World) (bR b5 : Nat) (a b : Iv) (L U : Nat) (pre : List Dc) (O : List Nat) (W : World) (v : Value) : Prop where
 bel : Bel w W
 big : b5 + 1 ≤ W.heap.size
 own : ∀ k ∈ O, b5 + 1 ≤ k
 top : ∀ k ∈ O, k < W.heap.size
 res : Blk W bR 42 [.bool false, .slice none 0 0, .int .i64 0, .bool false, .slice none 0 0, .int .i64 0]
 var : Blk W b5 264 [v]
 row : Oz W 37 3 v pre.length (cellsD pre)
 far : ∀ g, v.ownBlock = some g → g ∉ O ∧ b5 + 5 ≤ g
 num : ∀ y ∈ pre, Dv W y.A y.c y.v L U
 val : pre.map Dc.v = (prods a b).take pre.length
theorem im_abides {w : World} {bR b5 : Nat} {a b : Iv} {L U : Nat} (h0 : w.heap.size ≤ bR) (h1 : bR < b5) (pre : List Dc) : V1.Abides fun O W => ∃ v, IM w bR b5 a b L U pre O W v := by
 rintro O A O' B ⟨v, h⟩ hs h2 h3
 have same : ∀ k, k < A.heap.size → k ∉ O → B.heap[k]? = A.heap[k]? := fun k hk hn => (hs.block k hk).elim id (fun q => (hn q.1).elim)
 have low : ∀ k, k ≤ b5 → k ∉ O := fun k hk q => by have := h.own k q; omega
 have hb := h.big
 have sz := hs.size
 refine ⟨v, ⟨⟨⟨hs.os.trans h.bel.out.os, hs.tape.trans h.bel.out.tape, hs.output.trans h.bel.out.output, Nat.le_trans h.bel.size sz, fun k hk => (same k (Nat.lt_of_lt_of_le hk h.bel.size) (low k (by omega))).trans (h.bel.out.block k hk)⟩⟩, by omega,
  fun k hk => (h3 k hk).elim (h.own k) (fun q => by omega), fun k hk => (h3 k hk).elim (fun q => Nat.lt_of_lt_of_le (h.top k q) sz) (fun q => q.2), blk_keep h.res (same _ (by omega) (low _ (by omega))), blk_keep h.var (same _ (by omega) (low _ (by omega))),
  h.row.keep (fun g hg => same g (h.row.lt hg) (h.far g hg).1), fun g hg => ⟨fun q => (h3 g q).elim (h.far g hg).1 (fun q => by have := h.row.lt hg; omega), (h.far g hg).2⟩,
  fun y hy => dv_keep (h.num y hy) fun k hk => (hs.block k hk).imp id (·.2), h.val⟩⟩
theorem prod_at {a b : Iv} {pre : List Dc} {x : Dc} (h : pre.map Dc.v = (prods a b).take pre.length) (hx : (prods a b)[pre.length]? = some x.v) : (pre ++ [x]).map Dc.v = (prods a b).take (pre ++ [x]).length := by
 rw [List.map_append, h, List.length_append, List.length_singleton, List.take_add_one, hx]; rfl
theorem dMul {A0 B0 : Option Addr} {c0 d0 : Nat} {a : Iv} {L0 U0 : Nat} {A1 B1 : Option Addr} {c1 d1 : Nat} {b : Iv} {L1 U1 : Nat} (w : World) (T : Tab w)
  (p0l : Dv w A0 c0 a.1 L0 U0) (p0h : Dv w B0 d0 a.2 L0 U0) (hL0 : L0 ≤ 3000) (hU0 : U0 ≤ 3000) (p1l : Dv w A1 c1 b.1 L1 U1) (p1h : Dv w B1 d1 b.2 L1 U1) (hL1 : L1 ≤ 3000) (hU1 : U1 ≤ 3000)
  (hneg : ∀ p ∈ prods a b, de p ≤ 0) :
  Calls Tryz.prog 215 #[.agg #[.bool (dneg a.1), .slice A0 (digs (dm a.1)).length c0, .int .i64 (de a.1), .bool (dneg a.2), .slice B0 (digs (dm a.2)).length d0, .int .i64 (de a.2)], .agg #[.bool (dneg b.1), .slice A1 (digs (dm b.1)).length c1, .int .i64 (de b.1), .bool (dneg b.2), .slice B1 (digs (dm b.2)).length d1, .int .i64 (de b.2)]] w (MakesI w (imul a b) (L0 + L1) (U0 + U1)) := by
 have TT := Ho.mk T
 have PAl := Ho.mk p0l
 have PAh := Ho.mk p0h
 have PBl := Ho.mk p1l
 have PBh := Ho.mk p1h
 clear T p0l p0h p1l p1h
 refine (callsIn_wide (n := 3)).1 ?_
 refine callsIn_of_wp_marks Tryz.func215 rfl trivial ?_ rfl
 simp only [Tryz.ntmps215, List.size_toArray, List.length_cons, List.length_nil, Nat.reduceAdd, Nat.reduceSub, Array.replicate_succ, Array.replicate_zero, List.push_toArray, List.append_toArray, List.nil_append, List.cons_append]
 gi_wp2_with fail
 refine ⟨trivial, (callsIn_wide.2 (dCorners _)).mono ?_⟩
 rintro e w5 ⟨rfl, hw5⟩
 simp only [World.size_alloc] at *
 have HB : Ho (Bel w w5) := ⟨by rw [hw5]; exact ((((((Bel.refl w).alloc _).alloc _).alloc _).alloc _).alloc _).alloc _⟩
 have HS : w5.heap.size = w.heap.size + 6 := by rw [hw5]; simp only [World.size_alloc]
 have KR : Ho (Blk w5 (w.heap.size + 1 + 1) 42 [.bool false, .slice none 0 0, .int .i64 0, .bool false, .slice none 0 0, .int .i64 0]) := ⟨by
  rw [hw5]
  have h := (((Blk.new ((w.alloc (.cells #[.bool (dneg a.1), .slice A0 (digs (dm a.1)).length c0, .int .i64 (de a.1), .bool (dneg a.2), .slice B0 (digs (dm a.2)).length d0, .int .i64 (de a.2)] 42)).alloc (.cells #[.bool (dneg b.1), .slice A1 (digs (dm b.1)).length c1, .int .i64 (de b.1), .bool (dneg b.2), .slice B1 (digs (dm b.2)).length d1, .int .i64 (de b.2)] 42)) [.bool false, .slice none 0 0, .int .i64 0, .bool false, .slice none 0 0, .int .i64 0] 42).old (.cells #[.slice none 0 0] 264)).old (.cells #[.bool (dneg a.1), .slice A0 (digs (dm a.1)).length c0, .int .i64 (de a.1), .bool (dneg a.2), .slice B0 (digs (dm a.2)).length d0, .int .i64 (de a.2)] 42)).old (.cells #[.bool (dneg b.1), .slice A1 (digs (dm b.1)).length c1, .int .i64 (de b.1), .bool (dneg b.2), .slice B1 (digs (dm b.2)).length d1, .int .i64 (de b.2)] 42)
  simpa only [World.size_alloc] using h⟩
 have K5 : Ho (Blk w5 (w.heap.size + 1 + 1 + 1) 264 [.slice none 0 0]) := ⟨by
  rw [hw5]
  have h := ((Blk.new (((w.alloc (.cells #[.bool (dneg a.1), .slice A0 (digs (dm a.1)).length c0, .int .i64 (de a.1), .bool (dneg a.2), .slice B0 (digs (dm a.2)).length d0, .int .i64 (de a.2)] 42)).alloc (.cells #[.bool (dneg b.1), .slice A1 (digs (dm b.1)).length c1, .int .i64 (de b.1), .bool (dneg b.2), .slice B1 (digs (dm b.2)).length d1, .int .i64 (de b.2)] 42)).alloc (.cells #[.bool false, .slice none 0 0, .int .i64 0, .bool false, .slice none 0 0, .int .i64 0] 42)) [.slice none 0 0] 264).old (.cells #[.bool (dneg a.1), .slice A0 (digs (dm a.1)).length c0, .int .i64 (de a.1), .bool (dneg a.2), .slice B0 (digs (dm a.2)).length d0, .int .i64 (de a.2)] 42)).old (.cells #[.bool (dneg b.1), .slice A1 (digs (dm b.1)).length c1, .int .i64 (de b.1), .bool (dneg b.2), .slice B1 (digs (dm b.2)).length d1, .int .i64 (de b.2)] 42)
  simpa only [World.size_alloc] using h⟩
 have KA : Ho (Blk w5 (w.heap.size + 1 + 1 + 1 + 1) 42 [.bool (dneg a.1), .slice A0 (digs (dm a.1)).length c0, .int .i64 (de a.1), .bool (dneg a.2), .slice B0 (digs (dm a.2)).length d0, .int .i64 (de a.2)]) := ⟨by
  rw [hw5]
  have h := (Blk.new ((((w.alloc (.cells #[.bool (dneg a.1), .slice A0 (digs (dm a.1)).length c0, .int .i64 (de a.1), .bool (dneg a.2), .slice B0 (digs (dm a.2)).length d0, .int .i64 (de a.2)] 42)).alloc (.cells #[.bool (dneg b.1), .slice A1 (digs (dm b.1)).length c1, .int .i64 (de b.1), .bool (dneg b.2), .slice B1 (digs (dm b.2)).length d1, .int .i64 (de b.2)] 42)).alloc (.cells #[.bool false, .slice none 0 0, .int .i64 0, .bool false, .slice none 0 0, .int .i64 0] 42)).alloc (.cells #[.slice none 0 0] 264)) [.bool (dneg a.1), .slice A0 (digs (dm a.1)).length c0, .int .i64 (de a.1), .bool (dneg a.2), .slice B0 (digs (dm a.2)).length d0, .int .i64 (de a.2)] 42).old (.cells #[.bool (dneg b.1), .slice A1 (digs (dm b.1)).length c1, .int .i64 (de b.1), .bool (dneg b.2), .slice B1 (digs (dm b.2)).length d1, .int .i64 (de b.2)] 42)
  simpa only [World.size_alloc] using h⟩
 have KB : Ho (Blk w5 (w.heap.size + 1 + 1 + 1 + 1 + 1) 42 [.bool (dneg b.1), .slice A1 (digs (dm b.1)).length c1, .int .i64 (de b.1), .bool (dneg b.2), .slice B1 (digs (dm b.2)).length d1, .int .i64 (de b.2)]) := ⟨by
  rw [hw5]
  have h := Blk.new (((((w.alloc (.cells #[.bool (dneg a.1), .slice A0 (digs (dm a.1)).length c0, .int .i64 (de a.1), .bool (dneg a.2), .slice B0 (digs (dm a.2)).length d0, .int .i64 (de a.2)] 42)).alloc (.cells #[.bool (dneg b.1), .slice A1 (digs (dm b.1)).length c1, .int .i64 (de b.1), .bool (dneg b.2), .slice B1 (digs (dm b.2)).length d1, .int .i64 (de b.2)] 42)).alloc (.cells #[.bool false, .slice none 0 0, .int .i64 0, .bool false, .slice none 0 0, .int .i64 0] 42)).alloc (.cells #[.slice none 0 0] 264)).alloc (.cells #[.bool (dneg a.1), .slice A0 (digs (dm a.1)).length c0, .int .i64 (de a.1), .bool (dneg a.2), .slice B0 (digs (dm a.2)).length d0, .int .i64 (de a.2)] 42)) [.bool (dneg b.1), .slice A1 (digs (dm b.1)).length c1, .int .i64 (de b.1), .bool (dneg b.2), .slice B1 (digs (dm b.2)).length d1, .int .i64 (de b.2)] 42
  simpa only [World.size_alloc] using h⟩
 clear hw5
 gi_wp2_with fail
 refine rangeB (α := Dc) (encs := Dc.enc) (bs := [w.heap.size + 1 + 1 + 1]) (N := 4) (Bd := False) (Px := fun pre x W1 => (prods a b)[pre.length]? = some x.v ∧ Dv W1 x.A x.c x.v (L0 + L1) (U0 + U1)) (S := fun ys => ys.map Dc.v = prods a b) (Sp := fun _ => True)
  (by omega) rfl (fun args w => by rfl) (fun x => by rfl) (by intro k hk; simp at hk; omega) ?_
  (fun pre O W => ∃ v, IM w (w.heap.size + 1 + 1) (w.heap.size + 1 + 1 + 1) a b (L0 + L1) (U0 + U1) pre O W v) (fun _ _ _ _ => False) (fun h => h.elim) (im_abides (by omega) (by omega)) (fun _ _ _ _ _ _ h => h.elim) ?_
  (fun pre x a' W => ∃ k, a' = { tmps := #[.agg #[.bool (dneg a.1), .slice A0 (digs (dm a.1)).length c0, .int .i64 (de a.1), .bool (dneg a.2), .slice B0 (digs (dm a.2)).length d0, .int .i64 (de a.2)], .agg #[.bool (dneg b.1), .slice A1 (digs (dm b.1)).length c1, .int .i64 (de b.1), .bool (dneg b.2), .slice B1 (digs (dm b.2)).length d1, .int .i64 (de b.2)], .pointer (some ⟨w.heap.size, 0, none⟩), .pointer (some ⟨w.heap.size + 1, 0, none⟩), .pointer (some ⟨w.heap.size + 1 + 1, 0, none⟩), .pointer (some ⟨w.heap.size + 1 + 1 + 1, 0, none⟩), .pointer (some ⟨k, 0, none⟩), .agg #[.bool (dneg a.1), .slice A0 (digs (dm a.1)).length c0, .int .i64 (de a.1), .bool (dneg a.2), .slice B0 (digs (dm a.2)).length d0, .int .i64 (de a.2)], .agg #[.bool (dneg b.1), .slice A1 (digs (dm b.1)).length c1, .int .i64 (de b.1), .bool (dneg b.2), .slice B1 (digs (dm b.2)).length d1, .int .i64 (de b.2)], .func (.func 228) #[] #[.pointer (some ⟨w.heap.size + 1 + 1 + 1 + 1, 0, none⟩), .pointer (some ⟨w.heap.size + 1 + 1 + 1 + 1 + 1, 0, none⟩)], .agg #[.bool (dneg x.v), .slice x.A (digs (dm x.v)).length x.c, .int .i64 (de x.v)], undef, undef, undef, undef, undef, undef, undef, undef, undef], defers := [] } ∧ Blk W k 37 [.bool (dneg x.v), .slice x.A (digs (dm x.v)).length x.c, .int .i64 (de x.v)] ∧ (prods a b)[pre.length]? = some x.v ∧ Dv W x.A x.c x.v (L0 + L1) (U0 + U1)) ?_ ?_ ?_ ?_ ?_
 ·-- the iterator's promise
  intro W hW hBW
  have nk : ∀ k, k < w.heap.size + 6 → k ≠ w.heap.size + 1 + 1 + 1 → k ∉ [w.heap.size + 1 + 1 + 1] ++ [w5.heap.size + 1] := fun k h1 h2 q => by simp at q; omega
  have BW := HB.out.trans hBW
  exact corners1 _ _ (by omega) W (TT.out.bel BW) (KA.out.bel hBW) (KB.out.bel hBW) (PAl.out.bel BW) (PAh.out.bel BW) hL0 hU0 (PBl.out.bel BW) (PBh.out.bel BW) hL1 hU1 (nk _ (by omega) (by omega)) (nk _ (by omega) (by omega)) (nk _ (by have := I4.Tab.lt TT.out; omega) (by have := I4.Tab.lt TT.out; omega))
 ·exact ⟨_, HB.out, by omega, by simp, by simp, KR.out, K5.out, Oz.nil _ _ _, by simp [Value.ownBlock], by simp, rfl⟩
 ·-- the loop's record
  rintro pre x a' A r o hr ⟨k, h1, h2, h3, h4⟩
  refine ⟨k, h1, blk_keep h2 (World.putObj_heap_other ?_), h3, dv_keep h4 fun i hi => ?_⟩
  ·rintro rfl
   have := h2.out
   rw [hr] at this; simp at this
  ·by_cases e : i = w5.heap.size + 1
   ·subst e; exact .inr (ni_loop hr)
   ·exact .inl (World.putObj_heap_other e)
 ·-- the loop's variable
  rintro l pre O x W K ⟨v, hI⟩ hsz ⟨hx1, hx2⟩ hK
  simp [Dc.enc]
  gi_wp2
  exact hK _ _ ((Bel.refl W).alloc _) ⟨W.heap.size, rfl, Blk.new W [.bool (dneg x.v), .slice x.A (digs (dm x.v)).length x.c, .int .i64 (de x.v)] 37, hx1, hx2.bel ((Bel.refl W).alloc _)⟩
 ·-- a round
  rintro l pre O x a' W ⟨v, hI⟩ hlen hsz ⟨k, rfl, hk, hx1, hx2⟩ hO hlO
  obtain ⟨sA, sn, sc, rfl⟩ : ∃ A n c, v = .slice A n c := by
   rcases hI.row.row with ⟨e, _⟩ | ⟨g, cap, cur, e, _⟩
   ·exact ⟨_, _, _, e⟩
   ·exact ⟨_, _, _, e⟩
  have y0 := hI.var.cell (i := 0) rfl
  obtain ⟨x0, x1, x2⟩ := hk.c3
  have hpn : de x.v ≤ 0 := hneg _ (List.mem_of_getElem? hx1)
  have hrow := hI.row.keep (w' := W.alloc (.cells #[.bool (dneg x.v), .slice x.A (digs (dm x.v)).length x.c, .int .i64 (de x.v)] 37)) (fun g hg => Below.heap_alloc _ _ _ (hI.row.lt hg))
  gi_wp2_with (first
   | (gi_at_builtin; refine wpListIn_app _ rfl _ _ 264 rfl 37 (.agg #[.bool false, .slice none 0 0, .int .i64 0]) 3 40 (by kernel_rfl) (by kernel_rfl) rfl (by decide) ?_ (.slice sA sn sc) pre.length (cellsD pre) rfl hrow ⟨W.heap.size, 0, none⟩ 1 [.bool (dneg x.v), .slice x.A (digs (dm x.v)).length x.c, .int .i64 (de x.v)] rfl rfl ?_ ?_ ?_ (by omega) (by omega) ?_)
   | gi_in)
  ·intro u hu z e; simp [Value.cells] at hu; rcases hu with rfl | rfl | rfl <;> cases e; omega
  ·intro j u hj
   rw [Addr.add_lit]
   exact (Blk.new W [.bool (dneg x.v), .slice x.A (digs (dm x.v)).length x.c, .int .i64 (de x.v)] 37).cell (by simpa using hj)
  ·intro u hu; simp at hu; rcases hu with rfl | rfl | rfl <;> rfl
  ·intro u hu z e; simp at hu; rcases hu with rfl | rfl | rfl <;> cases e; exact hpn
  intro v' w' ho he1 he2 he3 he4 hb hat
  have he := And.intro he1 (And.intro he2 (And.intro he3 he4))
  obtain ⟨tA, tn, tc, rfl⟩ : ∃ A n c, v' = .slice A n c := by
   rcases ho.row with ⟨e, _⟩ | ⟨g, cap, cur, e, _⟩
   ·exact ⟨_, _, _, e⟩
   ·exact ⟨_, _, _, e⟩
  try simp only [World.size_alloc] at he
  try simp only [World.size_alloc] at hb
  try simp only [World.size_alloc] at hat
  have al : ∀ k, k < W.heap.size → (W.alloc (.cells #[.bool (dneg x.v), .slice x.A (digs (dm x.v)).length x.c, .int .i64 (de x.v)] 37)).heap[k]? = W.heap[k]? := fun k hk => Below.heap_alloc _ _ _ hk
  have hbig := hI.big
  -- blocks of the caller's that are not the row's
  have low : ∀ k, k < w.heap.size + 8 → k < W.heap.size → w'.heap[k]? = W.heap[k]? := fun k h1 h2 => by
   rcases hb k (by omega) with q | ⟨q, _⟩
   ·exact q.trans (al k h2)
   ·have := (hI.far k q).2; omega
  have KV : Blk w' (w.heap.size + 1 + 1 + 1) 264 [.slice sA sn sc] := blk_keep hI.var (low _ (by omega) (by omega))
  have y0 := KV.cell (i := 0) rfl
  have z0 := KV.free 0
  clear hrow x0 x1 x2
  gi_wp2_with fail
  have nv : NI W (w.heap.size + 1 + 1 + 1) := ni_blk hI.var (by intro i z hz; cases i <;> simp at hz)
  have ne : ∀ k, k ≠ w.heap.size + 1 + 1 + 1 → (w'.setCell ⟨w.heap.size + 1 + 1 + 1, 0, none⟩ (.slice tA tn tc)).heap[k]? = w'.heap[k]? := fun k hk => Below.heap_setCell _ _ _ _ (by first | exact hk | exact Ne.symm hk)
  have sz : w'.heap.size = (w'.setCell ⟨w.heap.size + 1 + 1 + 1, 0, none⟩ (.slice tA tn tc)).heap.size := by simp [World.setCell]
  have hY : Yd [w.heap.size + 1 + 1 + 1] O (w5.heap.size + 2) W (w'.setCell ⟨w.heap.size + 1 + 1 + 1, 0, none⟩ (.slice tA tn tc)) := ⟨he.1, he.2.1, he.2.2.1, by rw [← sz]; omega, fun k hk => by
   by_cases e : k = w.heap.size + 1 + 1 + 1
   ·subst e
    exact .inr ⟨nv, fun q => by have := hI.own _ q; omega, .inl (by simp)⟩
   ·rcases hb k (by omega) with q | ⟨q1, q2⟩
    ·exact .inl ((ne k e).trans (q.trans (al k hk)))
    ·exact .inr ⟨ni_same (al k hk).symm q2, (hI.far k q1).1, .inr (by have := (hI.far k q1).2; omega)⟩⟩
  have fr : ∀ g, (Value.slice tA tn tc).ownBlock = some g → g ∉ O ∧ w.heap.size + 1 + 1 + 1 + 5 ≤ g := fun g hg => by
   rcases hat with q | q
   ·exact hI.far g (q ▸ hg)
   ·rw [hg] at q
    cases q
    exact ⟨fun q => by have := hI.top _ q; omega, by omega⟩
  refine ⟨hY, .slice tA tn tc, ?_⟩
  refine ⟨⟨⟨hY.os.trans hI.bel.out.os, hY.tape.trans hI.bel.out.tape, hY.output.trans hI.bel.out.output, Nat.le_trans hI.bel.size hY.size, fun k hk => ?_⟩⟩, by have := hY.size; omega, hI.own, fun k hk => Nat.lt_of_lt_of_le (hI.top k hk) hY.size, blk_keep hI.res ((ne _ (by omega)).trans (low _ (by omega) (by omega))), KV.set 0 _, ?_, fr, ?_, prod_at hI.val hx1⟩
  ·have := hI.bel.size
   exact (ne k (by omega)).trans ((low k (by omega) (by omega)).trans (hI.bel.out.block k hk))
  ·rw [List.length_append, List.length_singleton, cellsD_app]
   exact ho.keep fun g hg => ne g (by have := (fr g hg).2; omega)
  ·intro y hy
   rcases List.mem_append.1 hy with q | q
   ·exact dv_keep (hI.num y q) hY.st
   ·rw [List.mem_singleton.1 q]; exact dv_keep hx2 hY.st
 ·-- all have come
  rintro ys O W hsz hys ⟨v, hI⟩ hd
  gi_wp2_with fail
  obtain ⟨q0, q1, q2, q3, rfl⟩ : ∃ q0 q1 q2 q3, ys = [q0, q1, q2, q3] := by
   have hl := congrArg List.length hys
   simp [prods] at hl
   match ys, hl with
   | [q0, q1, q2, q3], _ => exact ⟨q0, q1, q2, q3, rfl⟩
  simp only [List.map, prods, List.cons.injEq, and_true] at hys
  obtain ⟨e0, e1, e2, e3⟩ := hys
  rcases hI.row.row with ⟨_, hn⟩ | ⟨g, cap, cur, rfl, hg, hnc, _, _, htake, hnp⟩
  ·simp at hn
  simp only [List.length_cons, List.length_nil, Nat.reduceAdd, Nat.zero_add] at hI hnc
  have hgf := (hI.far g rfl).2
  have hcur : cur = (cellsD [q0, q1, q2, q3] ++ cur.toList.drop 12).toArray := by
   have : cur.toList = cellsD [q0, q1, q2, q3] ++ cur.toList.drop 12 := by
    conv => lhs; rw [← List.take_append_drop 12 cur.toList]
    rw [show (cur.toList.take 12) = cellsD [q0, q1, q2, q3] from htake]
   rw [← this]
  have HL : Ho (Blk W g 37 (cellsD [q0, q1, q2, q3] ++ cur.toList.drop 12)) := ⟨⟨by rw [hg]; exact congrArg (fun c => some (Obj.cells c _ (0, 0))) hcur⟩⟩
  have N0 := Ho.mk (hI.num q0 (by simp))
  have N1 := Ho.mk (hI.num q1 (by simp))
  have N2 := Ho.mk (hI.num q2 (by simp))
  have N3 := Ho.mk (hI.num q3 (by simp))
  have KV := Ho.mk hI.var
  have KZ := Ho.mk hI.res
  have TW := Ho.mk (TT.out.bel hI.bel)
  have BW := Ho.mk hI.bel
  have NR : NI W (w.heap.size + 1 + 1) := ni_blk KZ.out (by
   intro i z hz
   rcases i with _ | _ | _ | _ | _ | _ | i <;> simp at hz <;> omega)
  have ht2 := I4.Tab.lt TT.out
  have hbb : L0 + L1 + (U0 + U1) ≤ 20000 := by omega
  clear hI hnp htake hcur
  generalize cur.toList.drop 12 = sp at HL
  refine then_false ?_
  refine wpIn_wide.2 ?_
  refine wp_region_held_drew (S := fun w' => Gr (w.heap.size + 1 + 1) W w') (by kernel_rfl) ((Bel.refl W).drew.gr _) (fun hHeld => ?_)
  (try dsimp only at hHeld)
  refine rl (i := 0) (v := ?_) hHeld (fun w' hSw => ?_) ?_
  rotate_left
  ·(have z0 := (hSw.blk KV.out (by omega)).cell (i := 0) rfl; go_simp; try (with_reducible rfl))
  refine rl (i := 2) (v := ?_) hHeld (fun w' hSw => ?_) ?_
  rotate_left
  ·(have z0 := (hSw.blk KV.out (by omega)).cell (i := 0) rfl; go_simp; try (with_reducible rfl))
  try simp only [Act.put, Ow.zS, Ow.zC, Ow.zD]
  refine rc (i := 1) (fun K hK => ?_)
  go_simp
  go_at_call 223
  refine (I4.minF (sp := sp) _ (Tab.gr TW.out hHeld (by omega)) (hHeld.blk HL.out (by omega)) (dv_keep N0.out (gr_ni hHeld NR)) (dv_keep N1.out (gr_ni hHeld NR)) (dv_keep N2.out (gr_ni hHeld NR)) (dv_keep N3.out (gr_ni hHeld NR)) hbb).mono ?_
  rintro e w6 ⟨A6, c6, rfl, n6, b6⟩
  try go_wp2_with fail
  refine hK.out _ _ (hHeld.trans (b6.gr _)) (fun hHeld => ?_)
  clear hK K
  try simp only [Act.put, Ow.zS, Ow.zC, Ow.zD]
  refine rc (i := 3) (fun K hK => ?_)
  go_simp
  go_at_call 224
  refine (I4.maxF (sp := sp) _ (Tab.gr TW.out hHeld (by omega)) (hHeld.blk HL.out (by omega)) (dv_keep N0.out (gr_ni hHeld NR)) (dv_keep N1.out (gr_ni hHeld NR)) (dv_keep N2.out (gr_ni hHeld NR)) (dv_keep N3.out (gr_ni hHeld NR)) hbb).mono ?_
  rintro e w7 ⟨A7, c7, rfl, n7, b7⟩
  try go_wp2_with fail
  refine hK.out _ _ (hHeld.trans (b7.gr _)) (fun hHeld => ?_)
  clear hK K
  refine rt (i := 4) hHeld ?_
  try simp only [Act.put, Ow.zS, Ow.zC, Ow.zD]
  refine rc (i := 5) (fun K hK => ?_)
  have B7 := Ho.mk (((Bel.refl W).drew.trans b6).trans b7)
  have KRz := Ho.mk (KZ.out.bel B7.out)
  have yr0 := KRz.out.cell (i := 0) rfl
  have zr0 := KRz.out.free 0
  have yr1 := KRz.out.cell (i := 1) rfl
  have zr1 := KRz.out.free 1
  have yr2 := KRz.out.cell (i := 2) rfl
  have zr2 := KRz.out.free 2
  have yr3 := KRz.out.cell (i := 3) rfl
  have zr3 := KRz.out.free 3
  have yr4 := KRz.out.cell (i := 4) rfl
  have zr4 := KRz.out.free 4
  have yr5 := KRz.out.cell (i := 5) rfl
  have zr5 := KRz.out.free 5
  go_simp
  refine hK.out _ _ ((((((hHeld.set 0 _).set 1 _).set 2 _).set 3 _).set 4 _).set 5 _) (fun hHeld => ?_)
  clear hK K
  refine wpAnyH_done (by kernel_rfl) ?_ _
  gi_wp2_with fail
  rw [e0, e1, e2, e3] at n6 n7
  have hw5 : w5.heap.size < W.heap.size := by omega
  rw [HS] at hd hw5
  rw [show imul a b = ((lo2 (lo2 (lo2 (mulD a.1 b.1) (mulD a.1 b.2)) (mulD a.2 b.1)) (mulD a.2 b.2)), (hi2 (hi2 (hi2 (mulD a.1 b.1) (mulD a.1 b.2)) (mulD a.2 b.1)) (mulD a.2 b.2))) from rfl]
  refine leaveI (fn := Tryz.f215) (i := ((lo2 (lo2 (lo2 (mulD a.1 b.1) (mulD a.1 b.2)) (mulD a.2 b.1)) (mulD a.2 b.2)), (hi2 (hi2 (hi2 (mulD a.1 b.1) (mulD a.1 b.2)) (mulD a.2 b.1)) (mulD a.2 b.2)))) (k := w.heap.size + 6) rfl ?_ (BW.out.trans B7.out) (by omega) KRz.out (n6.bel b7) n7 ((B7.out.out.block _ hw5).trans hd) (by omega)
  rfl
 ·-- no round leaves
  rintro c pre O W hsz _ hI
  exact hI.elim
end J3
namespace C0
open Go Go.RowKit Go.Proofs.YtalbgklfhabnkaaGreatDoor Ow Pl Dp Dt D3 F1 T0 I0 V1
def MakesP (w : World) (p : Pt) (L U : Nat) (e : Ending) (w' : World) : Prop :=
 ∃ A a B b C c D d, e = .returned (.agg #[.bool (dneg p.1.1), .slice A (digs (dm p.1.1)).length a, .int .i64 (de p.1.1), .bool (dneg p.1.2), .slice B (digs (dm p.1.2)).length b, .int .i64 (de p.1.2),
   .bool (dneg p.2.1), .slice C (digs (dm p.2.1)).length c, .int .i64 (de p.2.1), .bool (dneg p.2.2), .slice D (digs (dm p.2.2)).length d, .int .i64 (de p.2.2)]) ∧
  Dv w' A a p.1.1 L U ∧ Dv w' B b p.1.2 L U ∧ Dv w' C c p.2.1 L U ∧ Dv w' D d p.2.2 L U ∧ Bel w w'
def set12 (w : World) (b : Nat) (v0 v1 v2 v3 v4 v5 v6 v7 v8 v9 va vb : Value) : World :=
 (((((((((((w.setCell ⟨b, 0, none⟩ v0).setCell ⟨b, 1, none⟩ v1).setCell ⟨b, 2, none⟩ v2).setCell ⟨b, 3, none⟩ v3).setCell ⟨b, 4, none⟩ v4).setCell ⟨b, 5, none⟩ v5).setCell ⟨b, 6, none⟩ v6).setCell ⟨b, 7, none⟩ v7).setCell ⟨b, 8, none⟩ v8).setCell ⟨b, 9, none⟩ v9).setCell ⟨b, 10, none⟩ va).setCell ⟨b, 11, none⟩ vb
theorem set12_other {w : World} {b k : Nat} (h : k ≠ b) (v0 v1 v2 v3 v4 v5 v6 v7 v8 v9 va vb : Value) : (set12 w b v0 v1 v2 v3 v4 v5 v6 v7 v8 v9 va vb).heap[k]? = w.heap[k]? := by
 unfold set12
 iterate 12 rw [Below.heap_setCell _ _ _ _ (by first | exact h | exact Ne.symm h)]
theorem set12_size {w : World} {b : Nat} (v0 v1 v2 v3 v4 v5 v6 v7 v8 v9 va vb : Value) : (set12 w b v0 v1 v2 v3 v4 v5 v6 v7 v8 v9 va vb).heap.size = w.heap.size := by simp [set12, World.setCell]
theorem dv_set12 {w : World} {A : Option Addr} {c : Nat} {v : Int} {L U b : Nat} (h : Dv w A c v L U) (n : NI w b) (v0 v1 v2 v3 v4 v5 v6 v7 v8 v9 va vb : Value) : Dv (set12 w b v0 v1 v2 v3 v4 v5 v6 v7 v8 v9 va vb) A c v L U :=
 dv_keep h fun k hk => by
  by_cases e : k = b
  ·subst e; exact .inr n
  ·exact .inl (set12_other e _ _ _ _ _ _ _ _ _ _ _ _)
theorem bel_set12 {w w2 : World} {b : Nat} (g : Bel w w2) (hb : w.heap.size ≤ b) (v0 v1 v2 v3 v4 v5 v6 v7 v8 v9 va vb : Value) : Bel w (set12 w2 b v0 v1 v2 v3 v4 v5 v6 v7 v8 v9 va vb) :=
 ⟨((((((((((((g.out.setCell (p := ⟨b, 0, none⟩) hb v0).setCell (p := ⟨b, 1, none⟩) hb v1).setCell (p := ⟨b, 2, none⟩) hb v2).setCell (p := ⟨b, 3, none⟩) hb v3).setCell (p := ⟨b, 4, none⟩) hb v4).setCell (p := ⟨b, 5, none⟩) hb v5).setCell (p := ⟨b, 6, none⟩) hb v6).setCell (p := ⟨b, 7, none⟩) hb v7).setCell (p := ⟨b, 8, none⟩) hb v8).setCell (p := ⟨b, 9, none⟩) hb v9).setCell (p := ⟨b, 10, none⟩) hb va).setCell (p := ⟨b, 11, none⟩) hb vb)⟩
theorem blk_set12 {w : World} {b : Nat} {t : TypeId} {u0 u1 u2 u3 u4 u5 u6 u7 u8 u9 ua ub : Value} (K : Blk w b t [u0, u1, u2, u3, u4, u5, u6, u7, u8, u9, ua, ub]) (v0 v1 v2 v3 v4 v5 v6 v7 v8 v9 va vb : Value) : Blk (set12 w b v0 v1 v2 v3 v4 v5 v6 v7 v8 v9 va vb) b t [v0, v1, v2, v3, v4, v5, v6, v7, v8, v9, va, vb] :=
 (((((((((((K.set 0 v0).set 1 v1).set 2 v2).set 3 v3).set 4 v4).set 5 v5).set 6 v6).set 7 v7).set 8 v8).set 9 v9).set 10 va).set 11 vb
theorem res12 {fn : Func} {p : Tmp} {tmps : Array Value} {w : World} {b : Nat} {v0 v1 v2 v3 v4 v5 v6 v7 v8 v9 va vb : Value} (hf : fn.results = #[.cell p 219]) (hp : tmps.getD p undef = .pointer (some ⟨b, 0, none⟩)) (h : Blk w b 219 [v0, v1, v2, v3, v4, v5, v6, v7, v8, v9, va, vb]) :
  (results fn tmps).run Tryz.prog w = .ok (.agg #[v0, v1, v2, v3, v4, v5, v6, v7, v8, v9, va, vb]) w := by
 obtain ⟨y0, y1, y2, y3, y4, y5, y6, y7, y8, y9, ya, yb⟩ := h.c12
 have hp2 := hp
 rw [Array.getD_eq_getD_getElem?] at hp2
 simp [results, hf, hp2, go_sem, y0, y1, y2, y3, y4, y5, y6, y7, y8, y9, ya, yb]
theorem ni_zero {w : World} {b : Nat} {t : TypeId} (K : Blk w b t [.bool false, .slice none 0 0, .int .i64 0, .bool false, .slice none 0 0, .int .i64 0, .bool false, .slice none 0 0, .int .i64 0, .bool false, .slice none 0 0, .int .i64 0]) : NI w b := ni_blk K (by
 intro i z hz
 rcases i with _ | _ | _ | _ | _ | _ | _ | _ | _ | _ | _ | _ | i <;> simp at hz <;> omega)
theorem de_mulD {u v : Int} {L U L' U' : Nat} (h : Wd u L U) (k : Wd v L' U') (hL : L + L' ≤ 20000) (h1 : de u ≤ 0) (h2 : de v ≤ 0) (hK : -(K : Int) ≤ de u + de v) : de (mulD u v) ≤ 0 := by
 rw [← mulD_sc u v h k hL]
 by_cases h0 : dm u * dm v = 0
 ·rw [h0, sc_zero]; exact Int.le_of_eq de_zero
 ·rw [sc_e h0 hK]
  have hu : dm u % 2 = 1 := dm_odd (fun e => h0 (by rw [dm_zero.2 e, Nat.zero_mul]))
  have hv : dm v % 2 = 1 := dm_odd (fun e => h0 (by rw [dm_zero.2 e, Nat.mul_zero]))
  rw [tz_odd (by rw [Nat.mul_mod, hu, hv])]
  omega
theorem gives_endP {fn : Func} {t : Tmp} {tmps : Array Value} {w w2 : World} {p : Pt} {bl a b c d L U : Nat} {A B C D : Option Addr} (hf : fn.results = #[.cell t 219]) (hp : tmps.getD t undef = .pointer (some ⟨bl, 0, none⟩)) (hB : Bel w w2) (hb : w.heap.size ≤ bl) {u0 u1 u2 u3 u4 u5 u6 u7 u8 u9 ua ub : Value}
  (K : Blk w2 bl 219 [u0, u1, u2, u3, u4, u5, u6, u7, u8, u9, ua, ub]) (n : NI w2 bl) (h1 : Dv w2 A a p.1.1 L U) (h2 : Dv w2 B b p.1.2 L U) (h3 : Dv w2 C c p.2.1 L U) (h4 : Dv w2 D d p.2.2 L U) :
  bodyPost Tryz.prog fn (MakesP w p L U) .ret { tmps := tmps, defers := [] }
   ((((((((((((w2.setCell ⟨bl, 0, none⟩ (.bool (dneg p.1.1))).setCell ⟨bl, 1, none⟩ (.slice A (digs (dm p.1.1)).length a)).setCell ⟨bl, 2, none⟩ (.int .i64 (de p.1.1))).setCell ⟨bl, 3, none⟩ (.bool (dneg p.1.2))).setCell ⟨bl, 4, none⟩ (.slice B (digs (dm p.1.2)).length b)).setCell ⟨bl, 5, none⟩ (.int .i64 (de p.1.2))).setCell ⟨bl, 6, none⟩ (.bool (dneg p.2.1))).setCell ⟨bl, 7, none⟩ (.slice C (digs (dm p.2.1)).length c)).setCell ⟨bl, 8, none⟩ (.int .i64 (de p.2.1))).setCell ⟨bl, 9, none⟩ (.bool (dneg p.2.2))).setCell ⟨bl, 10, none⟩ (.slice D (digs (dm p.2.2)).length d)).setCell ⟨bl, 11, none⟩ (.int .i64 (de p.2.2))) :=
 bodyPost_ret (res12 hf hp (blk_set12 K _ _ _ _ _ _ _ _ _ _ _ _)) rfl ⟨A, a, B, b, C, c, D, d, rfl, dv_set12 h1 n _ _ _ _ _ _ _ _ _ _ _ _, dv_set12 h2 n _ _ _ _ _ _ _ _ _ _ _ _, dv_set12 h3 n _ _ _ _ _ _ _ _ _ _ _ _, dv_set12 h4 n _ _ _ _ _ _ _ _ _ _ _ _, bel_set12 hB hb _ _ _ _ _ _ _ _ _ _ _ _⟩
end C0
namespace C1
open Go Go.RowKit Go.Proofs.YtalbgklfhabnkaaGreatDoor Ow Pl Dp Dt D3 F1 T0 I0 I1 I2 I4 C0
attribute [local go_sem ↓] Go.wp_at_zero Go.wp_at_succ
theorem dOne0 {u : Int} (w : World) (T : Tab w) (hu : (2 : Int) ^ K = u) :
  Calls Tryz.prog 196 #[] w (MakesI w (u, u) 0 64) := by
 have TT := Ho.mk T
 clear T
 have OF : Ho (∀ w, Tab w → Calls Tryz.prog 177 #[.int .i64 1] w (MakesD w u 0 64)) := ⟨fun w T => by rw [← hu]; exact F0.dOf1 T⟩
 clear hu
 go_enter Tryz.func196, Tryz.ntmps196
 go_wp2_with fail
 have g0 := Bel.refl w
 have hS : w.heap.size = w.heap.size := rfl
 have KR := Ho.mk (Blk.new w [.bool false, .slice none 0 0, .int .i64 0, .bool false, .slice none 0 0, .int .i64 0] 42)
 (with_reducible refine (OF.out _ (TT.out.bel (g0.trans ((Bel.refl _).alloc (.cells #[.bool false, .slice none 0 0, .int .i64 0, .bool false, .slice none 0 0, .int .i64 0] 42))))).mono ?_); rintro e w1 ⟨A1, c1, rfl, n1, b1⟩
 go_wp2_with fail
 (with_reducible refine (dPoint _ (TT.out.bel (g0.trans (((Bel.refl _).alloc (.cells #[.bool false, .slice none 0 0, .int .i64 0, .bool false, .slice none 0 0, .int .i64 0] 42)).trans b1))) n1 (by omega) (by omega)).mono ?_); rintro e w2 ⟨A2, c2, B2, d2, rfl, n2, m2, b2⟩
 have KRz := Ho.mk ((KR.out.bel (((Bel.refl _).trans b1).trans b2)))
 have yr0 := KRz.out.cell (i := 0) rfl
 have zr0 := KRz.out.free 0
 have yr1 := KRz.out.cell (i := 1) rfl
 have zr1 := KRz.out.free 1
 have yr2 := KRz.out.cell (i := 2) rfl
 have zr2 := KRz.out.free 2
 have yr3 := KRz.out.cell (i := 3) rfl
 have zr3 := KRz.out.free 3
 have yr4 := KRz.out.cell (i := 4) rfl
 have zr4 := KRz.out.free 4
 have yr5 := KRz.out.cell (i := 5) rfl
 have zr5 := KRz.out.free 5
 have BZ := Ho.mk (g0.trans ((((Bel.refl _).alloc (.cells #[.bool false, .slice none 0 0, .int .i64 0, .bool false, .slice none 0 0, .int .i64 0] 42)).trans b1).trans b2))
 have HZ0 := Ho.mk n2
 have HZ1 := Ho.mk m2
 go_wp2
 exact I0.gives_endI (fn := Tryz.f196) (i := ((u, u).1, (u, u).2)) rfl rfl BZ.out (by omega) KRz.out (HZ0.out.mono (by omega) (by omega)) (HZ1.out.mono (by omega) (by omega))
theorem dOne (w : World) (T : Tab w) : Calls Tryz.prog 196 #[] w (MakesI w T0.one 0 64) := dOne0 w T rfl
theorem dTurned0 {A0 B0 C0 D0 : Option Addr} {a0 b0 c0 d0 : Nat} {A1 B1 C1 D1 : Option Addr} {a1 b1 c1 d1 : Nat} {p q r : Pt} {n : Nat} {nn : Int} (w : World) (T : Tab w) (h0 : Dv w A0 a0 p.1.1 400 3) (h1 : Dv w B0 b0 p.1.2 400 3) (h2 : Dv w C0 c0 p.2.1 400 3) (h3 : Dv w D0 d0 p.2.2 400 3) (k0 : Dv w A1 a1 q.1.1 400 3) (k1 : Dv w B1 b1 q.1.2 400 3) (k2 : Dv w C1 c1 q.2.1 400 3) (k3 : Dv w D1 d1 q.2.2 400 3) (hn : n ≤ 3000) (hnn : (n : Int) = nn) (N0 : ∀ z ∈ J1.prods p.1 q.1, de z ≤ 0) (N1 : ∀ z ∈ J1.prods p.2 q.2, de z ≤ 0) (N2 : ∀ z ∈ J1.prods p.2 q.1, de z ≤ 0) (N3 : ∀ z ∈ J1.prods p.1 q.2, de z ≤ 0) (R1 : cutV (iadd (imul p.1 q.1) (iflip (imul p.2 q.2))).1 n false = r.1.1) (R2 : cutV (iadd (imul p.1 q.1) (iflip (imul p.2 q.2))).2 n true = r.1.2) (R3 : cutV (iadd (imul p.2 q.1) (imul p.1 q.2)).1 n false = r.2.1) (R4 : cutV (iadd (imul p.2 q.1) (imul p.1 q.2)).2 n true = r.2.2) (W0 : Wd r.1.1 400 3) (W1 : Wd r.1.2 400 3) (W2 : Wd r.2.1 400 3) (W3 : Wd r.2.2 400 3) :
  Calls Tryz.prog 198 #[.agg #[.bool (dneg p.1.1), .slice A0 (digs (dm p.1.1)).length a0, .int .i64 (de p.1.1), .bool (dneg p.1.2), .slice B0 (digs (dm p.1.2)).length b0, .int .i64 (de p.1.2), .bool (dneg p.2.1), .slice C0 (digs (dm p.2.1)).length c0, .int .i64 (de p.2.1), .bool (dneg p.2.2), .slice D0 (digs (dm p.2.2)).length d0, .int .i64 (de p.2.2)], .agg #[.bool (dneg q.1.1), .slice A1 (digs (dm q.1.1)).length a1, .int .i64 (de q.1.1), .bool (dneg q.1.2), .slice B1 (digs (dm q.1.2)).length b1, .int .i64 (de q.1.2), .bool (dneg q.2.1), .slice C1 (digs (dm q.2.1)).length c1, .int .i64 (de q.2.1), .bool (dneg q.2.2), .slice D1 (digs (dm q.2.2)).length d1, .int .i64 (de q.2.2)], .int .i64 nn] w (MakesP w r 400 3) := by
 have TT := Ho.mk T
 clear T
 have HN0 := Ho.mk N0
 have HN1 := Ho.mk N1
 have HN2 := Ho.mk N2
 have HN3 := Ho.mk N3
 have HR1 := Ho.mk R1
 have HR2 := Ho.mk R2
 have HR3 := Ho.mk R3
 have HR4 := Ho.mk R4
 have Rw0 := Ho.mk W0
 have Rw1 := Ho.mk W1
 have Rw2 := Ho.mk W2
 have Rw3 := Ho.mk W3
 clear N0 N1 N2 N3 R1 R2 R3 R4 W0 W1 W2 W3
 go_enter Tryz.func198, Tryz.ntmps198
 go_wp2_with fail
 have KB3 := Ho.mk ((Blk.new w [.bool (dneg p.1.1), .slice A0 (digs (dm p.1.1)).length a0, .int .i64 (de p.1.1), .bool (dneg p.1.2), .slice B0 (digs (dm p.1.2)).length b0, .int .i64 (de p.1.2), .bool (dneg p.2.1), .slice C0 (digs (dm p.2.1)).length c0, .int .i64 (de p.2.1), .bool (dneg p.2.2), .slice D0 (digs (dm p.2.2)).length d0, .int .i64 (de p.2.2)] 219).old (.cells #[.bool (dneg q.1.1), .slice A1 (digs (dm q.1.1)).length a1, .int .i64 (de q.1.1), .bool (dneg q.1.2), .slice B1 (digs (dm q.1.2)).length b1, .int .i64 (de q.1.2), .bool (dneg q.2.1), .slice C1 (digs (dm q.2.1)).length c1, .int .i64 (de q.2.1), .bool (dneg q.2.2), .slice D1 (digs (dm q.2.2)).length d1, .int .i64 (de q.2.2)] 219))
 have KB4 := Ho.mk (Blk.new (w.alloc (.cells #[.bool (dneg p.1.1), .slice A0 (digs (dm p.1.1)).length a0, .int .i64 (de p.1.1), .bool (dneg p.1.2), .slice B0 (digs (dm p.1.2)).length b0, .int .i64 (de p.1.2), .bool (dneg p.2.1), .slice C0 (digs (dm p.2.1)).length c0, .int .i64 (de p.2.1), .bool (dneg p.2.2), .slice D0 (digs (dm p.2.2)).length d0, .int .i64 (de p.2.2)] 219)) [.bool (dneg q.1.1), .slice A1 (digs (dm q.1.1)).length a1, .int .i64 (de q.1.1), .bool (dneg q.1.2), .slice B1 (digs (dm q.1.2)).length b1, .int .i64 (de q.1.2), .bool (dneg q.2.1), .slice C1 (digs (dm q.2.1)).length c1, .int .i64 (de q.2.1), .bool (dneg q.2.2), .slice D1 (digs (dm q.2.2)).length d1, .int .i64 (de q.2.2)] 219)
 rw [World.size_alloc] at KB4
 have g0 := ((Bel.refl w).alloc (.cells #[.bool (dneg p.1.1), .slice A0 (digs (dm p.1.1)).length a0, .int .i64 (de p.1.1), .bool (dneg p.1.2), .slice B0 (digs (dm p.1.2)).length b0, .int .i64 (de p.1.2), .bool (dneg p.2.1), .slice C0 (digs (dm p.2.1)).length c0, .int .i64 (de p.2.1), .bool (dneg p.2.2), .slice D0 (digs (dm p.2.2)).length d0, .int .i64 (de p.2.2)] 219)).alloc (.cells #[.bool (dneg q.1.1), .slice A1 (digs (dm q.1.1)).length a1, .int .i64 (de q.1.1), .bool (dneg q.1.2), .slice B1 (digs (dm q.1.2)).length b1, .int .i64 (de q.1.2), .bool (dneg q.2.1), .slice C1 (digs (dm q.2.1)).length c1, .int .i64 (de q.2.1), .bool (dneg q.2.2), .slice D1 (digs (dm q.2.2)).length d1, .int .i64 (de q.2.2)] 219)
 have hS : ((w.alloc (.cells #[.bool (dneg p.1.1), .slice A0 (digs (dm p.1.1)).length a0, .int .i64 (de p.1.1), .bool (dneg p.1.2), .slice B0 (digs (dm p.1.2)).length b0, .int .i64 (de p.1.2), .bool (dneg p.2.1), .slice C0 (digs (dm p.2.1)).length c0, .int .i64 (de p.2.1), .bool (dneg p.2.2), .slice D0 (digs (dm p.2.2)).length d0, .int .i64 (de p.2.2)] 219)).alloc (.cells #[.bool (dneg q.1.1), .slice A1 (digs (dm q.1.1)).length a1, .int .i64 (de q.1.1), .bool (dneg q.1.2), .slice B1 (digs (dm q.1.2)).length b1, .int .i64 (de q.1.2), .bool (dneg q.2.1), .slice C1 (digs (dm q.2.1)).length c1, .int .i64 (de q.2.1), .bool (dneg q.2.2), .slice D1 (digs (dm q.2.2)).length d1, .int .i64 (de q.2.2)] 219)).heap.size = w.heap.size + 1 + 1 := by simp only [World.size_alloc]
 have hZ : ((w.alloc (.cells #[.bool (dneg p.1.1), .slice A0 (digs (dm p.1.1)).length a0, .int .i64 (de p.1.1), .bool (dneg p.1.2), .slice B0 (digs (dm p.1.2)).length b0, .int .i64 (de p.1.2), .bool (dneg p.2.1), .slice C0 (digs (dm p.2.1)).length c0, .int .i64 (de p.2.1), .bool (dneg p.2.2), .slice D0 (digs (dm p.2.2)).length d0, .int .i64 (de p.2.2)] 219)).alloc (.cells #[.bool (dneg q.1.1), .slice A1 (digs (dm q.1.1)).length a1, .int .i64 (de q.1.1), .bool (dneg q.1.2), .slice B1 (digs (dm q.1.2)).length b1, .int .i64 (de q.1.2), .bool (dneg q.2.1), .slice C1 (digs (dm q.2.1)).length c1, .int .i64 (de q.2.1), .bool (dneg q.2.2), .slice D1 (digs (dm q.2.2)).length d1, .int .i64 (de q.2.2)] 219)) = ((w.alloc (.cells #[.bool (dneg p.1.1), .slice A0 (digs (dm p.1.1)).length a0, .int .i64 (de p.1.1), .bool (dneg p.1.2), .slice B0 (digs (dm p.1.2)).length b0, .int .i64 (de p.1.2), .bool (dneg p.2.1), .slice C0 (digs (dm p.2.1)).length c0, .int .i64 (de p.2.1), .bool (dneg p.2.2), .slice D0 (digs (dm p.2.2)).length d0, .int .i64 (de p.2.2)] 219)).alloc (.cells #[.bool (dneg q.1.1), .slice A1 (digs (dm q.1.1)).length a1, .int .i64 (de q.1.1), .bool (dneg q.1.2), .slice B1 (digs (dm q.1.2)).length b1, .int .i64 (de q.1.2), .bool (dneg q.2.1), .slice C1 (digs (dm q.2.1)).length c1, .int .i64 (de q.2.1), .bool (dneg q.2.2), .slice D1 (digs (dm q.2.2)).length d1, .int .i64 (de q.2.2)] 219)) := rfl
 generalize ((w.alloc (.cells #[.bool (dneg p.1.1), .slice A0 (digs (dm p.1.1)).length a0, .int .i64 (de p.1.1), .bool (dneg p.1.2), .slice B0 (digs (dm p.1.2)).length b0, .int .i64 (de p.1.2), .bool (dneg p.2.1), .slice C0 (digs (dm p.2.1)).length c0, .int .i64 (de p.2.1), .bool (dneg p.2.2), .slice D0 (digs (dm p.2.2)).length d0, .int .i64 (de p.2.2)] 219)).alloc (.cells #[.bool (dneg q.1.1), .slice A1 (digs (dm q.1.1)).length a1, .int .i64 (de q.1.1), .bool (dneg q.1.2), .slice B1 (digs (dm q.1.2)).length b1, .int .i64 (de q.1.2), .bool (dneg q.2.1), .slice C1 (digs (dm q.2.1)).length c1, .int .i64 (de q.2.1), .bool (dneg q.2.2), .slice D1 (digs (dm q.2.2)).length d1, .int .i64 (de q.2.2)] 219)) = w0 at *
 clear hZ
 have KR := Ho.mk (Blk.new w0 [.bool false, .slice none 0 0, .int .i64 0, .bool false, .slice none 0 0, .int .i64 0, .bool false, .slice none 0 0, .int .i64 0, .bool false, .slice none 0 0, .int .i64 0] 219)
 rw [hS] at KR
 have KB3_r1 := Ho.mk (KB3.out)
 obtain ⟨yB3_r1_0, yB3_r1_1, yB3_r1_2, yB3_r1_3, yB3_r1_4, yB3_r1_5, yB3_r1_6, yB3_r1_7, yB3_r1_8, yB3_r1_9, yB3_r1_10, yB3_r1_11⟩ := KB3_r1.out.c12
 have KB4_r1 := Ho.mk (KB4.out)
 obtain ⟨yB4_r1_0, yB4_r1_1, yB4_r1_2, yB4_r1_3, yB4_r1_4, yB4_r1_5, yB4_r1_6, yB4_r1_7, yB4_r1_8, yB4_r1_9, yB4_r1_10, yB4_r1_11⟩ := KB4_r1.out.c12
 refine wp_region_held_drew (S := fun w' => Bel w0 w') (by kernel_rfl) ((Bel.refl _).alloc (.cells #[.bool false, .slice none 0 0, .int .i64 0, .bool false, .slice none 0 0, .int .i64 0, .bool false, .slice none 0 0, .int .i64 0, .bool false, .slice none 0 0, .int .i64 0] 219)).drew (fun hHeld => ?_)
 (try dsimp only at hHeld)
 refine rt (i := 0) hHeld ?_
 refine rl (i := 1) (v := ?_) hHeld (fun w hSw => ?_) ?_
 rotate_left
 ·(have z0 := hSw.cell yB3_r1_0; have z1 := hSw.cell yB3_r1_1; have z2 := hSw.cell yB3_r1_2; have z3 := hSw.cell yB3_r1_3; have z4 := hSw.cell yB3_r1_4; have z5 := hSw.cell yB3_r1_5; go_simp; try (with_reducible rfl))
 refine rt (i := 2) hHeld ?_
 refine rl (i := 3) (v := ?_) hHeld (fun w hSw => ?_) ?_
 rotate_left
 ·(have z0 := hSw.cell yB4_r1_0; have z1 := hSw.cell yB4_r1_1; have z2 := hSw.cell yB4_r1_2; have z3 := hSw.cell yB4_r1_3; have z4 := hSw.cell yB4_r1_4; have z5 := hSw.cell yB4_r1_5; go_simp; try (with_reducible rfl))
 refine rt (i := 5) hHeld ?_
 refine rl (i := 6) (v := ?_) hHeld (fun w hSw => ?_) ?_
 rotate_left
 ·(have z6 := hSw.cell yB3_r1_6; have z7 := hSw.cell yB3_r1_7; have z8 := hSw.cell yB3_r1_8; have z9 := hSw.cell yB3_r1_9; have z10 := hSw.cell yB3_r1_10; have z11 := hSw.cell yB3_r1_11; go_simp; try (with_reducible rfl))
 refine rt (i := 7) hHeld ?_
 refine rl (i := 8) (v := ?_) hHeld (fun w hSw => ?_) ?_
 rotate_left
 ·(have z6 := hSw.cell yB4_r1_6; have z7 := hSw.cell yB4_r1_7; have z8 := hSw.cell yB4_r1_8; have z9 := hSw.cell yB4_r1_9; have z10 := hSw.cell yB4_r1_10; have z11 := hSw.cell yB4_r1_11; go_simp; try (with_reducible rfl))
 refine rt (i := 12) hHeld ?_
 refine rt (i := 14) hHeld ?_
 refine rl (i := 15) (v := ?_) hHeld (fun w hSw => ?_) ?_
 rotate_left
 ·(have z6 := hSw.cell yB3_r1_6; have z7 := hSw.cell yB3_r1_7; have z8 := hSw.cell yB3_r1_8; have z9 := hSw.cell yB3_r1_9; have z10 := hSw.cell yB3_r1_10; have z11 := hSw.cell yB3_r1_11; go_simp; try (with_reducible rfl))
 refine rt (i := 16) hHeld ?_
 refine rl (i := 17) (v := ?_) hHeld (fun w hSw => ?_) ?_
 rotate_left
 ·(have z0 := hSw.cell yB4_r1_0; have z1 := hSw.cell yB4_r1_1; have z2 := hSw.cell yB4_r1_2; have z3 := hSw.cell yB4_r1_3; have z4 := hSw.cell yB4_r1_4; have z5 := hSw.cell yB4_r1_5; go_simp; try (with_reducible rfl))
 refine rt (i := 19) hHeld ?_
 refine rl (i := 20) (v := ?_) hHeld (fun w hSw => ?_) ?_
 rotate_left
 ·(have z0 := hSw.cell yB3_r1_0; have z1 := hSw.cell yB3_r1_1; have z2 := hSw.cell yB3_r1_2; have z3 := hSw.cell yB3_r1_3; have z4 := hSw.cell yB3_r1_4; have z5 := hSw.cell yB3_r1_5; go_simp; try (with_reducible rfl))
 refine rt (i := 21) hHeld ?_
 refine rl (i := 22) (v := ?_) hHeld (fun w hSw => ?_) ?_
 rotate_left
 ·(have z6 := hSw.cell yB4_r1_6; have z7 := hSw.cell yB4_r1_7; have z8 := hSw.cell yB4_r1_8; have z9 := hSw.cell yB4_r1_9; have z10 := hSw.cell yB4_r1_10; have z11 := hSw.cell yB4_r1_11; go_simp; try (with_reducible rfl))
 refine rt (i := 25) hHeld ?_
 try simp only [Act.put, Ow.zS, Ow.zC, Ow.zD]
 refine rc (i := 4) (fun K hK => ?_)
 go_simp
 go_at_call 215
 (with_reducible refine (J3.dMul _ (TT.out.bel (g0.trans (((Bel.refl _).alloc (.cells #[.bool false, .slice none 0 0, .int .i64 0, .bool false, .slice none 0 0, .int .i64 0, .bool false, .slice none 0 0, .int .i64 0, .bool false, .slice none 0 0, .int .i64 0] 219)).drew))) ((h0.bel g0).bel (((Bel.refl _).alloc (.cells #[.bool false, .slice none 0 0, .int .i64 0, .bool false, .slice none 0 0, .int .i64 0, .bool false, .slice none 0 0, .int .i64 0, .bool false, .slice none 0 0, .int .i64 0] 219)).drew)) ((h1.bel g0).bel (((Bel.refl _).alloc (.cells #[.bool false, .slice none 0 0, .int .i64 0, .bool false, .slice none 0 0, .int .i64 0, .bool false, .slice none 0 0, .int .i64 0, .bool false, .slice none 0 0, .int .i64 0] 219)).drew)) (by omega) (by omega) ((k0.bel g0).bel (((Bel.refl _).alloc (.cells #[.bool false, .slice none 0 0, .int .i64 0, .bool false, .slice none 0 0, .int .i64 0, .bool false, .slice none 0 0, .int .i64 0, .bool false, .slice none 0 0, .int .i64 0] 219)).drew)) ((k1.bel g0).bel (((Bel.refl _).alloc (.cells #[.bool false, .slice none 0 0, .int .i64 0, .bool false, .slice none 0 0, .int .i64 0, .bool false, .slice none 0 0, .int .i64 0, .bool false, .slice none 0 0, .int .i64 0] 219)).drew)) (by omega) (by omega) HN0.out).mono ?_); rintro e w1 ⟨A1, c1, B1, d1, rfl, n1, m1, b1⟩
 try go_wp2_with fail
 refine hK.out _ _ (Bel.trans hHeld b1) (fun hHeld => ?_)
 clear hK K
 try simp only [Act.put, Ow.zS, Ow.zC, Ow.zD]
 refine rc (i := 9) (fun K hK => ?_)
 go_simp
 go_at_call 215
 (with_reducible refine (J3.dMul _ (TT.out.bel (g0.trans ((((Bel.refl _).alloc (.cells #[.bool false, .slice none 0 0, .int .i64 0, .bool false, .slice none 0 0, .int .i64 0, .bool false, .slice none 0 0, .int .i64 0, .bool false, .slice none 0 0, .int .i64 0] 219)).drew).trans b1))) ((h2.bel g0).bel ((((Bel.refl _).alloc (.cells #[.bool false, .slice none 0 0, .int .i64 0, .bool false, .slice none 0 0, .int .i64 0, .bool false, .slice none 0 0, .int .i64 0, .bool false, .slice none 0 0, .int .i64 0] 219)).drew).trans b1)) ((h3.bel g0).bel ((((Bel.refl _).alloc (.cells #[.bool false, .slice none 0 0, .int .i64 0, .bool false, .slice none 0 0, .int .i64 0, .bool false, .slice none 0 0, .int .i64 0, .bool false, .slice none 0 0, .int .i64 0] 219)).drew).trans b1)) (by omega) (by omega) ((k2.bel g0).bel ((((Bel.refl _).alloc (.cells #[.bool false, .slice none 0 0, .int .i64 0, .bool false, .slice none 0 0, .int .i64 0, .bool false, .slice none 0 0, .int .i64 0, .bool false, .slice none 0 0, .int .i64 0] 219)).drew).trans b1)) ((k3.bel g0).bel ((((Bel.refl _).alloc (.cells #[.bool false, .slice none 0 0, .int .i64 0, .bool false, .slice none 0 0, .int .i64 0, .bool false, .slice none 0 0, .int .i64 0, .bool false, .slice none 0 0, .int .i64 0] 219)).drew).trans b1)) (by omega) (by omega) HN1.out).mono ?_); rintro e w2 ⟨A2, c2, B2, d2, rfl, n2, m2, b2⟩
 try go_wp2_with fail
 refine hK.out _ _ (Bel.trans hHeld b2) (fun hHeld => ?_)
 clear hK K
 try simp only [Act.put, Ow.zS, Ow.zC, Ow.zD]
 refine rc (i := 10) (fun K hK => ?_)
 go_simp
 go_at_call 179
 (with_reducible refine (dFlip _ (TT.out.bel (g0.trans (((((Bel.refl _).alloc (.cells #[.bool false, .slice none 0 0, .int .i64 0, .bool false, .slice none 0 0, .int .i64 0, .bool false, .slice none 0 0, .int .i64 0, .bool false, .slice none 0 0, .int .i64 0] 219)).drew).trans b1).trans b2))) n2 m2 (by omega) (by omega)).mono ?_); rintro e w3 ⟨A3, c3, B3, d3, rfl, n3, m3, b3⟩
 try go_wp2_with fail
 refine hK.out _ _ (Bel.trans hHeld b3) (fun hHeld => ?_)
 clear hK K
 try simp only [Act.put, Ow.zS, Ow.zC, Ow.zD]
 refine rc (i := 11) (fun K hK => ?_)
 go_simp
 go_at_call 213
 (with_reducible refine (dAdd _ (TT.out.bel (g0.trans ((((((Bel.refl _).alloc (.cells #[.bool false, .slice none 0 0, .int .i64 0, .bool false, .slice none 0 0, .int .i64 0, .bool false, .slice none 0 0, .int .i64 0, .bool false, .slice none 0 0, .int .i64 0] 219)).drew).trans b1).trans b2).trans b3))) (n1.bel (((Bel.refl _).trans b2).trans b3)) (m1.bel (((Bel.refl _).trans b2).trans b3)) (by omega) (by omega) n3 m3 (by omega) (by omega)).mono ?_); rintro e w4 ⟨A4, c4, B4, d4, rfl, n4, m4, b4⟩
 try go_wp2_with fail
 refine hK.out _ _ (Bel.trans hHeld b4) (fun hHeld => ?_)
 clear hK K
 try simp only [Act.put, Ow.zS, Ow.zC, Ow.zD]
 refine rc (i := 13) (fun K hK => ?_)
 go_simp
 go_at_call 214
 (with_reducible refine (I3.dCutI (i := r.1) _ (TT.out.bel (g0.trans (((((((Bel.refl _).alloc (.cells #[.bool false, .slice none 0 0, .int .i64 0, .bool false, .slice none 0 0, .int .i64 0, .bool false, .slice none 0 0, .int .i64 0, .bool false, .slice none 0 0, .int .i64 0] 219)).drew).trans b1).trans b2).trans b3).trans b4))) n4 m4 (by omega) (by omega) hn hnn HR1.out (Rw0.out) HR2.out (Rw1.out)).mono ?_); rintro e w5 ⟨A5, c5, B5, d5, rfl, n5, m5, b5⟩
 try go_wp2_with fail
 refine hK.out _ _ (Bel.trans hHeld b5) (fun hHeld => ?_)
 clear hK K
 try simp only [Act.put, Ow.zS, Ow.zC, Ow.zD]
 refine rc (i := 18) (fun K hK => ?_)
 go_simp
 go_at_call 215
 (with_reducible refine (J3.dMul _ (TT.out.bel (g0.trans ((((((((Bel.refl _).alloc (.cells #[.bool false, .slice none 0 0, .int .i64 0, .bool false, .slice none 0 0, .int .i64 0, .bool false, .slice none 0 0, .int .i64 0, .bool false, .slice none 0 0, .int .i64 0] 219)).drew).trans b1).trans b2).trans b3).trans b4).trans b5))) ((h2.bel g0).bel ((((((((Bel.refl _).alloc (.cells #[.bool false, .slice none 0 0, .int .i64 0, .bool false, .slice none 0 0, .int .i64 0, .bool false, .slice none 0 0, .int .i64 0, .bool false, .slice none 0 0, .int .i64 0] 219)).drew).trans b1).trans b2).trans b3).trans b4).trans b5)) ((h3.bel g0).bel ((((((((Bel.refl _).alloc (.cells #[.bool false, .slice none 0 0, .int .i64 0, .bool false, .slice none 0 0, .int .i64 0, .bool false, .slice none 0 0, .int .i64 0, .bool false, .slice none 0 0, .int .i64 0] 219)).drew).trans b1).trans b2).trans b3).trans b4).trans b5)) (by omega) (by omega) ((k0.bel g0).bel ((((((((Bel.refl _).alloc (.cells #[.bool false, .slice none 0 0, .int .i64 0, .bool false, .slice none 0 0, .int .i64 0, .bool false, .slice none 0 0, .int .i64 0, .bool false, .slice none 0 0, .int .i64 0] 219)).drew).trans b1).trans b2).trans b3).trans b4).trans b5)) ((k1.bel g0).bel ((((((((Bel.refl _).alloc (.cells #[.bool false, .slice none 0 0, .int .i64 0, .bool false, .slice none 0 0, .int .i64 0, .bool false, .slice none 0 0, .int .i64 0, .bool false, .slice none 0 0, .int .i64 0] 219)).drew).trans b1).trans b2).trans b3).trans b4).trans b5)) (by omega) (by omega) HN2.out).mono ?_); rintro e w6 ⟨A6, c6, B6, d6, rfl, n6, m6, b6⟩
 try go_wp2_with fail
 refine hK.out _ _ (Bel.trans hHeld b6) (fun hHeld => ?_)
 clear hK K
 try simp only [Act.put, Ow.zS, Ow.zC, Ow.zD]
 refine rc (i := 23) (fun K hK => ?_)
 go_simp
 go_at_call 215
 (with_reducible refine (J3.dMul _ (TT.out.bel (g0.trans (((((((((Bel.refl _).alloc (.cells #[.bool false, .slice none 0 0, .int .i64 0, .bool false, .slice none 0 0, .int .i64 0, .bool false, .slice none 0 0, .int .i64 0, .bool false, .slice none 0 0, .int .i64 0] 219)).drew).trans b1).trans b2).trans b3).trans b4).trans b5).trans b6))) ((h0.bel g0).bel (((((((((Bel.refl _).alloc (.cells #[.bool false, .slice none 0 0, .int .i64 0, .bool false, .slice none 0 0, .int .i64 0, .bool false, .slice none 0 0, .int .i64 0, .bool false, .slice none 0 0, .int .i64 0] 219)).drew).trans b1).trans b2).trans b3).trans b4).trans b5).trans b6)) ((h1.bel g0).bel (((((((((Bel.refl _).alloc (.cells #[.bool false, .slice none 0 0, .int .i64 0, .bool false, .slice none 0 0, .int .i64 0, .bool false, .slice none 0 0, .int .i64 0, .bool false, .slice none 0 0, .int .i64 0] 219)).drew).trans b1).trans b2).trans b3).trans b4).trans b5).trans b6)) (by omega) (by omega) ((k2.bel g0).bel (((((((((Bel.refl _).alloc (.cells #[.bool false, .slice none 0 0, .int .i64 0, .bool false, .slice none 0 0, .int .i64 0, .bool false, .slice none 0 0, .int .i64 0, .bool false, .slice none 0 0, .int .i64 0] 219)).drew).trans b1).trans b2).trans b3).trans b4).trans b5).trans b6)) ((k3.bel g0).bel (((((((((Bel.refl _).alloc (.cells #[.bool false, .slice none 0 0, .int .i64 0, .bool false, .slice none 0 0, .int .i64 0, .bool false, .slice none 0 0, .int .i64 0, .bool false, .slice none 0 0, .int .i64 0] 219)).drew).trans b1).trans b2).trans b3).trans b4).trans b5).trans b6)) (by omega) (by omega) HN3.out).mono ?_); rintro e w7 ⟨A7, c7, B7, d7, rfl, n7, m7, b7⟩
 try go_wp2_with fail
 refine hK.out _ _ (Bel.trans hHeld b7) (fun hHeld => ?_)
 clear hK K
 try simp only [Act.put, Ow.zS, Ow.zC, Ow.zD]
 refine rc (i := 24) (fun K hK => ?_)
 go_simp
 go_at_call 213
 (with_reducible refine (dAdd _ (TT.out.bel (g0.trans ((((((((((Bel.refl _).alloc (.cells #[.bool false, .slice none 0 0, .int .i64 0, .bool false, .slice none 0 0, .int .i64 0, .bool false, .slice none 0 0, .int .i64 0, .bool false, .slice none 0 0, .int .i64 0] 219)).drew).trans b1).trans b2).trans b3).trans b4).trans b5).trans b6).trans b7))) (n6.bel ((Bel.refl _).trans b7)) (m6.bel ((Bel.refl _).trans b7)) (by omega) (by omega) n7 m7 (by omega) (by omega)).mono ?_); rintro e w8 ⟨A8, c8, B8, d8, rfl, n8, m8, b8⟩
 try go_wp2_with fail
 refine hK.out _ _ (Bel.trans hHeld b8) (fun hHeld => ?_)
 clear hK K
 try simp only [Act.put, Ow.zS, Ow.zC, Ow.zD]
 refine rc (i := 26) (fun K hK => ?_)
 go_simp
 go_at_call 214
 (with_reducible refine (I3.dCutI (i := r.2) _ (TT.out.bel (g0.trans (((((((((((Bel.refl _).alloc (.cells #[.bool false, .slice none 0 0, .int .i64 0, .bool false, .slice none 0 0, .int .i64 0, .bool false, .slice none 0 0, .int .i64 0, .bool false, .slice none 0 0, .int .i64 0] 219)).drew).trans b1).trans b2).trans b3).trans b4).trans b5).trans b6).trans b7).trans b8))) n8 m8 (by omega) (by omega) hn hnn HR3.out (Rw2.out) HR4.out (Rw3.out)).mono ?_); rintro e w9 ⟨A9, c9, B9, d9, rfl, n9, m9, b9⟩
 try go_wp2_with fail
 refine hK.out _ _ (Bel.trans hHeld b9) (fun hHeld => ?_)
 clear hK K
 refine rt (i := 27) hHeld ?_
 try simp only [Act.put, Ow.zS, Ow.zC, Ow.zD]
 refine rc (i := 28) (fun K hK => ?_)
 have KRz := Ho.mk ((KR.out.bel (((((((((((Bel.refl _).drew).trans b1).trans b2).trans b3).trans b4).trans b5).trans b6).trans b7).trans b8).trans b9)))
 have yr0 := KRz.out.cell (i := 0) rfl
 have zr0 := KRz.out.free 0
 have yr1 := KRz.out.cell (i := 1) rfl
 have zr1 := KRz.out.free 1
 have yr2 := KRz.out.cell (i := 2) rfl
 have zr2 := KRz.out.free 2
 have yr3 := KRz.out.cell (i := 3) rfl
 have zr3 := KRz.out.free 3
 have yr4 := KRz.out.cell (i := 4) rfl
 have zr4 := KRz.out.free 4
 have yr5 := KRz.out.cell (i := 5) rfl
 have zr5 := KRz.out.free 5
 have yr6 := KRz.out.cell (i := 6) rfl
 have zr6 := KRz.out.free 6
 have yr7 := KRz.out.cell (i := 7) rfl
 have zr7 := KRz.out.free 7
 have yr8 := KRz.out.cell (i := 8) rfl
 have zr8 := KRz.out.free 8
 have yr9 := KRz.out.cell (i := 9) rfl
 have zr9 := KRz.out.free 9
 have yr10 := KRz.out.cell (i := 10) rfl
 have zr10 := KRz.out.free 10
 have yr11 := KRz.out.cell (i := 11) rfl
 have zr11 := KRz.out.free 11
 go_simp
 refine hK.out _ _ (bel_set12 hHeld (Nat.le_of_eq hS) _ _ _ _ _ _ _ _ _ _ _ _) (fun hHeld => ?_)
 clear hK K
 try simp only [Act.put, Ow.zS, Ow.zC, Ow.zD]
 refine wpAnyH_done (by kernel_rfl) ?_ _
 have BZ := Ho.mk (g0.trans ((((((((((((Bel.refl _).alloc (.cells #[.bool false, .slice none 0 0, .int .i64 0, .bool false, .slice none 0 0, .int .i64 0, .bool false, .slice none 0 0, .int .i64 0, .bool false, .slice none 0 0, .int .i64 0] 219)).drew).trans b1).trans b2).trans b3).trans b4).trans b5).trans b6).trans b7).trans b8).trans b9))
 have HZ0 := Ho.mk (n5.bel (((((Bel.refl _).trans b6).trans b7).trans b8).trans b9))
 have HZ1 := Ho.mk (m5.bel (((((Bel.refl _).trans b6).trans b7).trans b8).trans b9))
 have HZ2 := Ho.mk n9
 have HZ3 := Ho.mk m9
 go_wp2
 exact gives_endP (fn := Tryz.f198) (p := ((r.1.1, r.1.2), (r.2.1, r.2.2))) rfl rfl BZ.out (by omega) KRz.out (ni_zero KRz.out) (HZ0.out.mono (by omega) (by omega)) (HZ1.out.mono (by omega) (by omega)) (HZ2.out.mono (by omega) (by omega)) (HZ3.out.mono (by omega) (by omega))
end C1
namespace C2
open Go Go.RowKit Go.Proofs.YtalbgklfhabnkaaGreatDoor Ow Pl Dp Dt D3 F1 T0 I0 I1 I2 I4 C0
attribute [local go_sem ↓] Go.wp_at_zero Go.wp_at_succ
theorem dShrN {w : World} {A : Option Addr} {c x b : Nat} (h : Nv w A c x b) (hb : b ≤ 20000) {k : Nat} {kk : Int} (hk : (k : Int) = kk) (hk2 : k ≤ 20000) : Calls Tryz.prog 168 #[.slice A (digs x).length c, .int .i64 kk] w (MakesN w (x / 2 ^ k) b) :=
 (Na.shr_calls A c x k kk w h.rd h.cap (by have := h.len; omega) (by omega) (by omega)).mono (makesN_of (Nat.lt_of_le_of_lt (Nat.div_le_self _ _) h.lt))
theorem floor_a {A0 : Option Addr} {c0 : Nat} {v : Int} {L0 U0 : Nat} {nn : Int} (w : World) (T : Tab w) (p0 : Dv w A0 c0 v L0 U0) (hL : L0 ≤ 3000) (hU : U0 ≤ 3000) (he0 : -3000 ≤ de v) (he1 : de v ≤ 3000) (hn0 : 0 ≤ nn) (hn1 : nn ≤ 3000) (hc : 0 ≤ de v + nn) :
  Calls Tryz.prog 172 #[.agg #[.bool (dneg v), .slice A0 (digs (dm v)).length c0, .int .i64 (de v)], .int .i64 nn] w (MakesD w v L0 U0) := by
 have TT := Ho.mk T
 clear T
 go_enter Tryz.func172, Tryz.ntmps172
 go_wp2_with fail
 have KB2 := Ho.mk (Blk.new w [.bool (dneg v), .slice A0 (digs (dm v)).length c0, .int .i64 (de v)] 37)
 have g0 := (Bel.refl w).alloc (.cells #[.bool (dneg v), .slice A0 (digs (dm v)).length c0, .int .i64 (de v)] 37)
 have hS : (w.alloc (.cells #[.bool (dneg v), .slice A0 (digs (dm v)).length c0, .int .i64 (de v)] 37)).heap.size = w.heap.size + 1 := by simp only [World.size_alloc]
 have hZ : (w.alloc (.cells #[.bool (dneg v), .slice A0 (digs (dm v)).length c0, .int .i64 (de v)] 37)) = (w.alloc (.cells #[.bool (dneg v), .slice A0 (digs (dm v)).length c0, .int .i64 (de v)] 37)) := rfl
 generalize (w.alloc (.cells #[.bool (dneg v), .slice A0 (digs (dm v)).length c0, .int .i64 (de v)] 37)) = w0 at *
 clear hZ
 have KR := Ho.mk (Blk.new w0 [.bool false, .slice none 0 0, .int .i64 0] 37)
 rw [hS] at KR
 have KB2_0_1 := Ho.mk ((KB2.out.bel ((Bel.refl _).alloc (.cells #[.bool false, .slice none 0 0, .int .i64 0] 37))))
 obtain ⟨yB2_0_1_0, yB2_0_1_1, yB2_0_1_2⟩ := KB2_0_1.out.c3
 (with_reducible refine (dShift0 (TT.out.bel (g0.trans ((Bel.refl _).alloc (.cells #[.bool false, .slice none 0 0, .int .i64 0] 37)))) ((p0.bel g0).bel ((Bel.refl _).alloc (.cells #[.bool false, .slice none 0 0, .int .i64 0] 37))) (by omega)).mono ?_); rintro e w1 ⟨A1, c1, rfl, n1, b1⟩
 clear yB2_0_1_0 yB2_0_1_1 yB2_0_1_2
 have KRz := Ho.mk ((KR.out.bel ((Bel.refl _).trans b1)))
 have yr0 := KRz.out.cell (i := 0) rfl
 have zr0 := KRz.out.free 0
 have yr1 := KRz.out.cell (i := 1) rfl
 have zr1 := KRz.out.free 1
 have yr2 := KRz.out.cell (i := 2) rfl
 have zr2 := KRz.out.free 2
 have BZ := Ho.mk (g0.trans (((Bel.refl _).alloc (.cells #[.bool false, .slice none 0 0, .int .i64 0] 37)).trans b1))
 have HZ0 := Ho.mk n1
 go_wp2
 exact I0.gives_endD (fn := Tryz.f172) rfl rfl BZ.out (by omega) KRz.out (HZ0.out.mono (by omega) (by omega))
theorem floor_b {A0 : Option Addr} {c0 : Nat} {v : Int} {L0 U0 : Nat} {nn : Int} {kN : Nat} (w : World) (T : Tab w) (p0 : Dv w A0 c0 v L0 U0) (hL : L0 ≤ 3000) (hU : U0 ≤ 3000) (he0 : -3000 ≤ de v) (he1 : de v ≤ 3000) (hn0 : 0 ≤ nn) (hn1 : nn ≤ 3000) (hc : de v + nn < 0) (hg : dneg v = false) (hk : (kN : Int) = -de v - nn) :
  Calls Tryz.prog 172 #[.agg #[.bool (dneg v), .slice A0 (digs (dm v)).length c0, .int .i64 (de v)], .int .i64 nn] w (MakesD w (sc false (dm v / 2 ^ kN) (-nn)) 3000 6002) := by
 have TT := Ho.mk T
 clear T
 have HK := Ho.mk hk
 have HG := Ho.mk hg
 clear hg
 go_enter Tryz.func172, Tryz.ntmps172
 go_wp2_with fail
 have KB2 := Ho.mk (Blk.new w [.bool (dneg v), .slice A0 (digs (dm v)).length c0, .int .i64 (de v)] 37)
 have g0 := (Bel.refl w).alloc (.cells #[.bool (dneg v), .slice A0 (digs (dm v)).length c0, .int .i64 (de v)] 37)
 have hS : (w.alloc (.cells #[.bool (dneg v), .slice A0 (digs (dm v)).length c0, .int .i64 (de v)] 37)).heap.size = w.heap.size + 1 := by simp only [World.size_alloc]
 have hZ : (w.alloc (.cells #[.bool (dneg v), .slice A0 (digs (dm v)).length c0, .int .i64 (de v)] 37)) = (w.alloc (.cells #[.bool (dneg v), .slice A0 (digs (dm v)).length c0, .int .i64 (de v)] 37)) := rfl
 generalize (w.alloc (.cells #[.bool (dneg v), .slice A0 (digs (dm v)).length c0, .int .i64 (de v)] 37)) = w0 at *
 clear hZ
 have KR := Ho.mk (Blk.new w0 [.bool false, .slice none 0 0, .int .i64 0] 37)
 rw [hS] at KR
 have hg := HG.out
 have KB2_0_1 := Ho.mk ((KB2.out.bel ((Bel.refl _).alloc (.cells #[.bool false, .slice none 0 0, .int .i64 0] 37))))
 obtain ⟨yB2_0_1_0, yB2_0_1_1, yB2_0_1_2⟩ := KB2_0_1.out.c3
 (with_reducible refine (dShrN (((p0.bel g0).nv (by omega)).bel ((Bel.refl _).alloc (.cells #[.bool false, .slice none 0 0, .int .i64 0] 37))) (by omega) (k := kN) HK.out (by omega)).mono ?_); rintro e w1 ⟨A1, c1, rfl, n1, b1⟩
 clear yB2_0_1_0 yB2_0_1_1 yB2_0_1_2
 have KB2_1_0 := Ho.mk ((KB2_0_1.out.bel ((Bel.refl _).trans b1)))
 obtain ⟨yB2_1_0_0, yB2_1_0_1, yB2_1_0_2⟩ := KB2_1_0.out.c3
 go_wp2_with fail
 (with_reducible refine (F1.dMake (L := 3000) (U := 6002) (TT.out.bel (g0.trans (((Bel.refl _).alloc (.cells #[.bool false, .slice none 0 0, .int .i64 0] 37)).trans b1))) n1 false (-nn) (by omega) (by omega) (by omega) (by omega) (by omega)).mono ?_); rintro e w2 ⟨A2, c2, rfl, n2, b2⟩
 clear yB2_1_0_0 yB2_1_0_1 yB2_1_0_2
 have KRz := Ho.mk ((KR.out.bel (((Bel.refl _).trans b1).trans b2)))
 have yr0 := KRz.out.cell (i := 0) rfl
 have zr0 := KRz.out.free 0
 have yr1 := KRz.out.cell (i := 1) rfl
 have zr1 := KRz.out.free 1
 have yr2 := KRz.out.cell (i := 2) rfl
 have zr2 := KRz.out.free 2
 have BZ := Ho.mk (g0.trans ((((Bel.refl _).alloc (.cells #[.bool false, .slice none 0 0, .int .i64 0] 37)).trans b1).trans b2))
 have HZ0 := Ho.mk n2
 go_wp2
 exact I0.gives_endD (fn := Tryz.f172) rfl rfl BZ.out (by omega) KRz.out (HZ0.out.mono (by omega) (by omega))
theorem floor_c {A0 : Option Addr} {c0 : Nat} {v : Int} {L0 U0 : Nat} {nn : Int} {kN : Nat} (w : World) (T : Tab w) (p0 : Dv w A0 c0 v L0 U0) (hL : L0 ≤ 3000) (hU : U0 ≤ 3000) (he0 : -3000 ≤ de v) (he1 : de v ≤ 3000) (hn0 : 0 ≤ nn) (hn1 : nn ≤ 3000) (hc : de v + nn < 0) (hg : dneg v = true) (hk : (kN : Int) = -de v - nn) :
  Calls Tryz.prog 172 #[.agg #[.bool (dneg v), .slice A0 (digs (dm v)).length c0, .int .i64 (de v)], .int .i64 nn] w (MakesD w (sc true (dm v / 2 ^ kN + 1) (-nn)) 3000 6002) := by
 have TT := Ho.mk T
 clear T
 have HK := Ho.mk hk
 have HG := Ho.mk hg
 clear hg
 go_enter Tryz.func172, Tryz.ntmps172
 go_wp2_with fail
 have KB2 := Ho.mk (Blk.new w [.bool (dneg v), .slice A0 (digs (dm v)).length c0, .int .i64 (de v)] 37)
 have g0 := (Bel.refl w).alloc (.cells #[.bool (dneg v), .slice A0 (digs (dm v)).length c0, .int .i64 (de v)] 37)
 have hS : (w.alloc (.cells #[.bool (dneg v), .slice A0 (digs (dm v)).length c0, .int .i64 (de v)] 37)).heap.size = w.heap.size + 1 := by simp only [World.size_alloc]
 have hZ : (w.alloc (.cells #[.bool (dneg v), .slice A0 (digs (dm v)).length c0, .int .i64 (de v)] 37)) = (w.alloc (.cells #[.bool (dneg v), .slice A0 (digs (dm v)).length c0, .int .i64 (de v)] 37)) := rfl
 generalize (w.alloc (.cells #[.bool (dneg v), .slice A0 (digs (dm v)).length c0, .int .i64 (de v)] 37)) = w0 at *
 clear hZ
 have KR := Ho.mk (Blk.new w0 [.bool false, .slice none 0 0, .int .i64 0] 37)
 rw [hS] at KR
 have hg := HG.out
 have KB2_0_1 := Ho.mk ((KB2.out.bel ((Bel.refl _).alloc (.cells #[.bool false, .slice none 0 0, .int .i64 0] 37))))
 obtain ⟨yB2_0_1_0, yB2_0_1_1, yB2_0_1_2⟩ := KB2_0_1.out.c3
 (with_reducible refine (dShrN (((p0.bel g0).nv (by omega)).bel ((Bel.refl _).alloc (.cells #[.bool false, .slice none 0 0, .int .i64 0] 37))) (by omega) (k := kN) HK.out (by omega)).mono ?_); rintro e w1 ⟨A1, c1, rfl, n1, b1⟩
 clear yB2_0_1_0 yB2_0_1_1 yB2_0_1_2
 have KB2_1_0 := Ho.mk ((KB2_0_1.out.bel ((Bel.refl _).trans b1)))
 obtain ⟨yB2_1_0_0, yB2_1_0_1, yB2_1_0_2⟩ := KB2_1_0.out.c3
 go_wp2_with fail
 (with_reducible refine (dOf1N).mono ?_); rintro e w2 ⟨A2, c2, rfl, n2, b2⟩
 clear yB2_1_0_0 yB2_1_0_1 yB2_1_0_2
 go_wp2_with fail
 (with_reducible refine (dAddN (n1.bel ((Bel.refl _).trans b2)) n2 (by omega) (by omega)).mono ?_); rintro e w3 ⟨A3, c3, rfl, n3, b3⟩
 have KB2_3_0 := Ho.mk ((KB2_1_0.out.bel (((Bel.refl _).trans b2).trans b3)))
 obtain ⟨yB2_3_0_0, yB2_3_0_1, yB2_3_0_2⟩ := KB2_3_0.out.c3
 go_wp2_with fail
 (with_reducible refine (F1.dMake (L := 3000) (U := 6002) (TT.out.bel (g0.trans (((((Bel.refl _).alloc (.cells #[.bool false, .slice none 0 0, .int .i64 0] 37)).trans b1).trans b2).trans b3))) n3 true (-nn) (by omega) (by omega) (by omega) (by omega) (by omega)).mono ?_); rintro e w4 ⟨A4, c4, rfl, n4, b4⟩
 clear yB2_3_0_0 yB2_3_0_1 yB2_3_0_2
 have KRz := Ho.mk ((KR.out.bel (((((Bel.refl _).trans b1).trans b2).trans b3).trans b4)))
 have yr0 := KRz.out.cell (i := 0) rfl
 have zr0 := KRz.out.free 0
 have yr1 := KRz.out.cell (i := 1) rfl
 have zr1 := KRz.out.free 1
 have yr2 := KRz.out.cell (i := 2) rfl
 have zr2 := KRz.out.free 2
 have BZ := Ho.mk (g0.trans ((((((Bel.refl _).alloc (.cells #[.bool false, .slice none 0 0, .int .i64 0] 37)).trans b1).trans b2).trans b3).trans b4))
 have HZ0 := Ho.mk n4
 go_wp2
 exact I0.gives_endD (fn := Tryz.f172) rfl rfl BZ.out (by omega) KRz.out (HZ0.out.mono (by omega) (by omega))
theorem dFloor {A0 : Option Addr} {c0 : Nat} {v : Int} {L0 U0 n : Nat} {nn : Int} (w : World) (T : Tab w) (p0 : Dv w A0 c0 v L0 U0) (hL : L0 ≤ 3000) (hU : U0 ≤ 3000) (hn : n ≤ 3000) (hnn : (n : Int) = nn) :
  Calls Tryz.prog 172 #[.agg #[.bool (dneg v), .slice A0 (digs (dm v)).length c0, .int .i64 (de v)], .int .i64 nn] w (MakesD w (floorV v n) 3000 6002) := by
 obtain ⟨_, e0, e1⟩ := root_cases p0.wd hL hU hn
 unfold floorV
 subst hnn
 by_cases hc : 0 ≤ de v + n
 ·rw [if_pos hc]
  refine (floor_a w T p0 hL hU e0 e1 (by omega) (by omega) hc).mono ?_
  rintro e w' ⟨A, c, rfl, h, b⟩
  exact ⟨A, c, rfl, h.mono (by omega) (by omega), b⟩
 ·rw [if_neg hc]
  cases hg : dneg v with
  | false => simpa [hg] using floor_b (kN := (-de v - n).toNat) w T p0 hL hU e0 e1 (by omega) (by omega) (by omega) hg (by omega)
  | true => simpa [hg] using floor_c (kN := (-de v - n).toNat) w T p0 hL hU e0 e1 (by omega) (by omega) (by omega) hg (by omega)
end C2
namespace T1
open Ieee Go Go.RowKit Ow Pl Dp Gp Gq F1 T0
noncomputable def hnext (w : Nat) (p : Pe) : Pe := (xhalf (xadd xone p.1) w, xhalf (xadd xone (xflip p.1)) w)
noncomputable def hrun (w : Nat) : Nat → Pe → List Pe
 | 0, _ => []
 | n + 1, p => p :: hrun w n (hnext w p)
def okE (x : E3) : Bool := x.m == 0 || (x.m % 2 == 1 && (decide (-400 ≤ x.e) && (decide (x.e + blen x.m ≤ 3) && decide (x.e ≤ 0))))
def lgE (x : E3) : Bool := x.m == 0 || (x.m % 2 == 1 && decide (16777216 ≤ x.m))
def okPe (p : Pe) : Bool := okE p.1.1 && (okE p.1.2 && (okE p.2.1 && okE p.2.2))
def lgPe (p : Pe) : Bool := lgE p.1.1 && (lgE p.1.2 && (lgE p.2.1 && lgE p.2.2))
def rnext (k Q w j : Nat) (p h : Pe) : Pe := if k / 2 ^ (Q - (3 + j)) % 2 = 1 then xturned p h w else p
def xrest (k Q w : Nat) : List Pe → Nat → Pe → Pe
 | [], _, p => p
 | h :: t, j, p => xrest k Q w t (j + 1) (rnext k Q w j p h)
def xrestOk (k Q w : Nat) : List Pe → Nat → Pe → Bool
 | [], _, p => okPe p
 | h :: t, j, p => okPe p && ((if k / 2 ^ (Q - (3 + j)) % 2 = 1 then lgPe (rnext k Q w j p h) else true) && xrestOk k Q w t (j + 1) (rnext k Q w j p h))
def zeroP : Pe := (xone, (⟨false, 0, 0⟩, ⟨false, 0, 0⟩))
def progOk (Q w k cw sw : Nat) (hl : List Pe) : Bool :=
 let p := xrest k Q w hl 0 zeroP
 let c := xends p.1 110
 let s := xends p.2 110
 xrestOk k Q w hl 0 zeroP && (xknown p.1 110 && (xknown p.2 110 && (ew c.1 == cw && (ew c.2 == cw && (ew s.1 == sw && (ew s.2 == sw && (okE c.1 && (okE c.2 && (okE s.1 && okE s.2)))))))))
def refOk (Q k cw sw : Nat) (hl : List Pe) : Bool :=
 let p := xrest k Q 160 hl 0 zeroP
 xrestOk k Q 160 hl 0 zeroP && (ew p.1.1 == cw && (ew p.1.2 == cw && (ew p.2.1 == sw && ew p.2.2 == sw)))
noncomputable def sgPe (p : Pe) : Bool := !((xshift (xadd xone p.1) (-1)).1.n || (xshift (xadd xone (xflip p.1)) (-1)).1.n)
noncomputable def allPe (p : Pe) : Bool := okPe p && (lgPe p && sgPe p)
noncomputable def rowOk (Q : Nat) (l : List (Nat × Nat × Nat)) : Bool :=
 let w := 150 + 2 * Q
 let hx := hrun w (Q - 2 + 1) (xhalf xone w, xhalf xone w)
 let hl := hx.take (Q - 2)
 let h2 := hrun 160 (Q - 2) (xhalf xone 160, xhalf xone 160)
 hx.all allPe && (h2.all allPe && l.all fun x => progOk Q w x.1 x.2.1 x.2.2 hl && refOk Q x.1 x.2.1 x.2.2 h2)
structure OkV (v : Int) : Prop where
 wd : Wd v 400 3
 e0 : de v ≤ 0
structure OkP (p : Pt) : Prop where
 cl : OkV p.1.1
 ch : OkV p.1.2
 sl : OkV p.2.1
 sh : OkV p.2.2
def LgV (v : Int) : Prop := v = 0 ∨ 2 ≤ (digs (dm v)).length
structure LgP (p : Pt) : Prop where
 cl : LgV p.1.1
 ch : LgV p.1.2
 sl : LgV p.2.1
 sh : LgV p.2.2
theorem okE_wd {x : E3} (h : okE x = true) : OkV x.v := by
 unfold okE at h
 simp only [Bool.or_eq_true, Bool.and_eq_true, beq_iff_eq, decide_eq_true_eq] at h
 rcases h with h | ⟨h1, h2, h3, h4⟩
 ·rw [zero_v h]; exact ⟨Wd.zero _ _, by rw [de_zero]; omega⟩
 ·refine ⟨wd_sc x.n (blen_lt x.m) h2 h3 (by unfold K; omega), ?_⟩
  have : de x.v = x.e := by
   unfold E3.v
   rw [sc_e (by omega) (by unfold K; omega), tz_odd h1]; omega
  omega
theorem lgE_v {x : E3} (h : lgE x = true) : LgV x.v := by
 unfold lgE at h
 simp only [Bool.or_eq_true, Bool.and_eq_true, beq_iff_eq, decide_eq_true_eq] at h
 rcases h with h | ⟨h1, h2⟩
 ·exact .inl (zero_v h)
 ·right
  have e : dm x.v = x.m := by unfold E3.v; rw [sc_m, odd_self h1]
  rw [e]
  rcases Nat.lt_or_ge (digs x.m).length 2 with q | q
  ·have := digs_len_le.1 (show (digs x.m).length ≤ 1 by omega)
   omega
  ·exact q
theorem lgPe_v {p : Pe} (h : lgPe p = true) : LgP (vp p) := by
 unfold lgPe at h
 simp only [Bool.and_eq_true] at h
 exact ⟨lgE_v h.1, lgE_v h.2.1, lgE_v h.2.2.1, lgE_v h.2.2.2⟩
theorem okPe_ok {p : Pe} (h : okPe p = true) : OkP (vp p) := by
 unfold okPe at h
 simp only [Bool.and_eq_true] at h
 exact ⟨okE_wd h.1, okE_wd h.2.1, okE_wd h.2.2.1, okE_wd h.2.2.2⟩
theorem hnext_e (w j : Nat) : hnext w (halvesE w j) = halvesE w (j + 1) := rfl
theorem hrun_get (w : Nat) : ∀ n j i, i < n → (hrun w n (halvesE w j))[i]? = some (halvesE w (j + i))
 | 0, _, _, h => absurd h (Nat.not_lt_zero _)
 | n + 1, j, 0, _ => rfl
 | n + 1, j, i + 1, h => by
  show (hrun w n (hnext w (halvesE w j)))[i]? = _
  rw [hnext_e, hrun_get w n (j + 1) i (by omega)]
  congr 2; omega
theorem rnext_v (k Q w j : Nat) (p : Pe) (h : vp p = restP k Q w j) : vp (rnext k Q w j p (halvesE w j)) = restP k Q w (j + 1) := by
 unfold rnext
 show _ = (if k / 2 ^ (Q - (3 + j)) % 2 = 1 then turned (restP k Q w j) (halvesP w j) w else restP k Q w j)
 split
 ·rw [xturned_v, h, halvesE_v]
 ·exact h
theorem zero_rest (k Q w : Nat) : vp zeroP = restP k Q w 0 := by
 show (vi xone, vi (⟨false, 0, 0⟩, ⟨false, 0, 0⟩)) = (one, (0, 0))
 rw [xone_v]
 have : (E3.mk false 0 0).v = 0 := zero_v rfl
 unfold vi; rw [this]
theorem xrest_v (k Q w : Nat) : ∀ n j p, vp p = restP k Q w j → vp (xrest k Q w (hrun w n (halvesE w j)) j p) = restP k Q w (j + n)
 | 0, j, p, h => h
 | n + 1, j, p, h => by
  show vp (xrest k Q w (hrun w n (hnext w (halvesE w j))) (j + 1) (rnext k Q w j p (halvesE w j))) = _
  rw [hnext_e, xrest_v k Q w n (j + 1) _ (rnext_v k Q w j p h)]
  congr 1; omega
theorem xrestOk_v (k Q w : Nat) : ∀ n j p, vp p = restP k Q w j → xrestOk k Q w (hrun w n (halvesE w j)) j p = true → (∀ i, i ≤ n → OkP (restP k Q w (j + i))) ∧ (∀ i, i < n → k / 2 ^ (Q - (3 + (j + i))) % 2 = 1 → LgP (restP k Q w (j + i + 1)))
 | 0, j, p, h, ho => ⟨fun i hi => by
   obtain rfl : i = 0 := by omega
   rw [Nat.add_zero, ← h]; exact okPe_ok ho, fun i hi => absurd hi (Nat.not_lt_zero _)⟩
 | n + 1, j, p, h, ho => by
  have ho' : (okPe p && ((if k / 2 ^ (Q - (3 + j)) % 2 = 1 then lgPe (rnext k Q w j p (halvesE w j)) else true) && xrestOk k Q w (hrun w n (hnext w (halvesE w j))) (j + 1) (rnext k Q w j p (halvesE w j)))) = true := ho
  simp only [Bool.and_eq_true] at ho'
  rw [hnext_e] at ho'
  obtain ⟨o1, o2, o3⟩ := ho'
  have hn := rnext_v k Q w j p h
  obtain ⟨q1, q2⟩ := xrestOk_v k Q w n (j + 1) _ hn o3
  constructor
  ·intro i hi
   cases i with
   | zero => rw [Nat.add_zero, ← h]; exact okPe_ok o1
   | succ i =>
    have := q1 i (by omega)
    rwa [show j + 1 + i = j + (i + 1) by omega] at this
  ·intro i hi hb
   cases i with
   | zero =>
    rw [Nat.add_zero] at hb ⊢
    rw [if_pos hb] at o2
    rw [← hn]; exact lgPe_v o2
   | succ i =>
    have := q2 i (by omega) (by rwa [show j + 1 + i = j + (i + 1) by omega])
    rwa [show j + 1 + i + 1 = j + (i + 1) + 1 by omega] at this
structure HvP (w j : Nat) : Prop where
 ok : OkP (halvesP w j)
 lg : LgP (halvesP w j)
 s1 : 0 ≤ sgn (ishift (iadd one (halvesP w j).1) (-1)).1
 s2 : 0 ≤ sgn (ishift (iadd one (iflip (halvesP w j).1)) (-1)).1
structure Entry (Q k cw sw : Nat) : Prop where
 hp : ∀ j, j < Q - 2 + 1 → HvP (150 + 2 * Q) j
 rp : ∀ j, j ≤ Q - 2 → OkP (restP k Q (150 + 2 * Q) j)
 rg : ∀ j, j < Q - 2 → k / 2 ^ (Q - (3 + j)) % 2 = 1 → LgP (restP k Q (150 + 2 * Q) (j + 1))
 kc : knownB (restP k Q (150 + 2 * Q) (Q - 2)).1 110 = true
 ks : knownB (restP k Q (150 + 2 * Q) (Q - 2)).2 110 = true
 cl : nw (endsV (restP k Q (150 + 2 * Q) (Q - 2)).1 110).1 = cw
 ch : nw (endsV (restP k Q (150 + 2 * Q) (Q - 2)).1 110).2 = cw
 sl : nw (endsV (restP k Q (150 + 2 * Q) (Q - 2)).2 110).1 = sw
 sh : nw (endsV (restP k Q (150 + 2 * Q) (Q - 2)).2 110).2 = sw
 oc1 : OkV (endsV (restP k Q (150 + 2 * Q) (Q - 2)).1 110).1
 oc2 : OkV (endsV (restP k Q (150 + 2 * Q) (Q - 2)).1 110).2
 os1 : OkV (endsV (restP k Q (150 + 2 * Q) (Q - 2)).2 110).1
 os2 : OkV (endsV (restP k Q (150 + 2 * Q) (Q - 2)).2 110).2
 hr : ∀ j, j < Q - 2 → HvP 160 j
 rr : ∀ j, j ≤ Q - 2 → OkP (restP k Q 160 j)
 rrg : ∀ j, j < Q - 2 → k / 2 ^ (Q - (3 + j)) % 2 = 1 → LgP (restP k Q 160 (j + 1))
 rcl : nw (restP k Q 160 (Q - 2)).1.1 = cw
 rch : nw (restP k Q 160 (Q - 2)).1.2 = cw
 rsl : nw (restP k Q 160 (Q - 2)).2.1 = sw
 rsh : nw (restP k Q 160 (Q - 2)).2.2 = sw
theorem sg_v {x : E3} (h : x.n = false) : 0 ≤ sgn x.v := by
 by_cases h0 : x.m = 0
 ·rw [zero_v h0]; decide
 ·have hn : dneg x.v = x.n := sc_neg h0
  rw [h] at hn
  unfold dneg at hn
  have := of_decide_eq_false hn
  unfold sgn
  rw [cmpI_gt (by have : x.v ≠ 0 := sc_ne h0; omega)]; decide
theorem take_hrun (w : Nat) : ∀ n p, (hrun w (n + 1) p).take n = hrun w n p
 | 0, _ => rfl
 | n + 1, p => by
  show p :: (hrun w (n + 1) (hnext w p)).take n = p :: hrun w n (hnext w p)
  rw [take_hrun w n]
theorem all_get {w n : Nat} (h : (hrun w n (halvesE w 0)).all allPe = true) : ∀ j, j < n → HvP w j := fun j hj => by
 have e := hrun_get w n 0 j hj
 rw [Nat.zero_add] at e
 have := List.all_eq_true.1 h _ (List.mem_of_getElem? e)
 unfold allPe sgPe at this
 simp only [Bool.and_eq_true, Bool.not_eq_true', Bool.or_eq_false_iff] at this
 obtain ⟨h1, h2, h3, h4⟩ := this
 have hv := halvesE_v w j
 have e1 : (halvesP w j).1 = vi (halvesE w j).1 := by rw [← hv]; rfl
 refine ⟨by rw [← hv]; exact okPe_ok h1, by rw [← hv]; exact lgPe_v h2, ?_, ?_⟩
 ·rw [e1, ← xone_v, ← xadd_v, ← xshift_v]; exact sg_v h3
 ·rw [e1, ← xone_v, ← xflip_v, ← xadd_v, ← xshift_v]; exact sg_v h4
theorem row_entry {Q : Nat} {l : List (Nat × Nat × Nat)} (h : rowOk Q l = true) {k cw sw : Nat} (hm : (k, cw, sw) ∈ l) : Entry Q k cw sw := by
 unfold rowOk at h
 dsimp only at h
 rw [show (xhalf xone (150 + 2 * Q), xhalf xone (150 + 2 * Q)) = halvesE (150 + 2 * Q) 0 from rfl, show (xhalf xone 160, xhalf xone 160) = halvesE 160 0 from rfl] at h
 simp only [Bool.and_eq_true] at h
 rw [take_hrun] at h
 obtain ⟨h1, h2, h3⟩ := h
 have h4 := List.all_eq_true.1 h3 _ hm
 dsimp only at h4
 rw [Bool.and_eq_true] at h4
 obtain ⟨p, r⟩ := h4
 unfold progOk at p
 unfold refOk at r
 dsimp only at p r
 simp only [Bool.and_eq_true, beq_iff_eq, xknown_v, ew_v] at p r
 have e1 := xrest_v k Q (150 + 2 * Q) (Q - 2) 0 zeroP (zero_rest _ _ _)
 have e2 := xrest_v k Q 160 (Q - 2) 0 zeroP (zero_rest _ _ _)
 rw [Nat.zero_add] at e1 e2
 obtain ⟨p1, p2, p3, p4, p5, p6, p7, p8, p9, pa, pb⟩ := p
 obtain ⟨r1, r2, r3, r4, r5⟩ := r
 obtain ⟨f1, g1⟩ := xrestOk_v k Q (150 + 2 * Q) (Q - 2) 0 zeroP (zero_rest _ _ _) p1
 obtain ⟨f2, g2⟩ := xrestOk_v k Q 160 (Q - 2) 0 zeroP (zero_rest _ _ _) r1
 simp only [Nat.zero_add] at f1 f2 g1 g2
 generalize xrest k Q (150 + 2 * Q) (hrun (150 + 2 * Q) (Q - 2) (halvesE (150 + 2 * Q) 0)) 0 zeroP = P at *
 generalize xrest k Q 160 (hrun 160 (Q - 2) (halvesE 160 0)) 0 zeroP = R at *
 have c1 : (endsV (restP k Q (150 + 2 * Q) (Q - 2)).1 110) = vi (xends P.1 110) := by rw [xends_v, ← e1]; rfl
 have c2 : (endsV (restP k Q (150 + 2 * Q) (Q - 2)).2 110) = vi (xends P.2 110) := by rw [xends_v, ← e1]; rfl
 refine ⟨all_get h1, f1, g1, ?_, ?_, ?_, ?_, ?_, ?_, ?_, ?_, ?_, ?_, all_get h2, f2, g2, ?_, ?_, ?_, ?_⟩
 ·rw [← e1]; exact p2
 ·rw [← e1]; exact p3
 ·rw [c1]; exact p4
 ·rw [c1]; exact p5
 ·rw [c2]; exact p6
 ·rw [c2]; exact p7
 ·rw [c1]; exact okE_wd p8
 ·rw [c1]; exact okE_wd p9
 ·rw [c2]; exact okE_wd pa
 ·rw [c2]; exact okE_wd pb
 ·rw [← e2]; exact r2
 ·rw [← e2]; exact r3
 ·rw [← e2]; exact r4
 ·rw [← e2]; exact r5
def row0 : List (Nat × Nat × Nat) := [(0, 4607182418800017408, 0)]
theorem row0_ok : rowOk 0 row0 = true := by decide +kernel
def row3 : List (Nat × Nat × Nat) := [(1, 4604544271217802189, 4604544271217802189)]
theorem row3_ok : rowOk 3 row3 = true := by decide +kernel
def row4 : List (Nat × Nat × Nat) := [(1, 4606496786581982534, 4600565431771507043)]
theorem row4_ok : rowOk 4 row4 = true := by decide +kernel
def row5 : List (Nat × Nat × Nat) := [(1, 4607009347991985328, 4596196889902818827), (3, 4605664432017547683, 4603179351334086856)]
theorem row5_ok : rowOk 5 row5 = true := by decide +kernel
def row6 : List (Nat × Nat × Nat) := [(1, 4607139046673687846, 4591727299969791020), (3, 4606794571824115162, 4598900923775164166), (5, 4606118860100255153, 4602163548591158843), (7, 4605137878724712257, 4603889326261607894)]
theorem row6_ok : rowOk 6 row6 = true := by decide +kernel
def row7 : List (Nat × Nat × Nat) := [(1, 4607171569234046334, 4587232218149935124), (3, 4607084929468638487, 4594454542771183930), (5, 4606912484326125783, 4597922303871901467), (7, 4606655894547498725, 4599740487990714333), (9, 4606317631232591731, 4601373767755717824), (11, 4605900952042040894, 4602805845399633902), (13, 4605409869824231233, 4603540801876750389), (15, 4604849113969373103, 4604224084862889120)]
theorem row7_ok : rowOk 7 row7 = true := by decide +kernel
def row8 : List (Nat × Nat × Nat) := [(1, 4607179706000002317, 4582730748936808062), (3, 4607158013403433018, 4589965306122607094), (5, 4607114680469659603, 4593485039402578702), (7, 4607049811591515049, 4595327571478659014), (9, 4606963563043808649, 4597061974398750563), (11, 4606856142606846307, 4598476289818621559), (13, 4606727809065869586, 4599322407794599425), (15, 4606578871587619388, 4600154912527631775), (17, 4606409688975526202, 4600971798440897930), (19, 4606220668805321205, 4601771097584682078), (21, 4606012266443150634, 4602550884377336506), (23, 4605784983948558848, 4602994049708411683), (25, 4605539368864982914, 4603361638657888991), (27, 4605276012900672507, 4603716733069447353), (29, 4604995550503212910, 4604058477489546729), (31, 4604698657331085206, 4604386048625945823)]
theorem row8_ok : rowOk 8 row8 = true := by decide +kernel
def row9 : List (Nat × Nat × Nat) := [(1, 4607181740574479067, 4578227681973159812), (3, 4607176315382986589, 4585465300892538317), (5, 4607165468267934125, 4588998070480937184), (7, 4607149205763218185, 4590846768565625881), (9, 4607127537664763515, 4592606767730311893), (11, 4607100477024622401, 4594016801320007031), (13, 4607068040143112603, 4594891488091520602), (15, 4607030246558998647, 4595762727260045105), (17, 4606987119037722413, 4596629994023683153), (19, 4606938683557690074, 4597492765973365521), (21, 4606884969294623682, 4598262871476403630), (23, 4606826008603986804, 4598688984595225406), (25, 4606761837001494797, 4599112075441176914), (27, 4606692493141721470, 4599531889160152938), (29, 4606618018794815019, 4599948172872067014), (31, 4606538458821337243, 4600360675823176935), (33, 4606453861145241227, 4600769149537129431), (35, 4606364276725003740, 4601173347964633034), (37, 4606269759522929756, 4601573027631668967), (39, 4606170366472647579, 4601967947786150793), (41, 4606066157444814153, 4602357870542944470), (43, 4605957195211051218, 4602710690099904183), (45, 4605843545406134034, 4602900303344142735), (47, 4605725276488455441, 4603087070374583113), (49, 4605602459698789090, 4603270878689749849), (51, 4605475169017376660, 4603451617570386922), (53, 4605343481119364930, 4603629178146150899), (55, 4605207475328619533, 4603803453461190356), (57, 4605067233569943231, 4603974338538572089), (59, 4604922840319727473, 4604141730443515286), (61, 4604774382555066977, 4604305528345395596), (63, 4604621949701367983, 4604465633578481725)]
theorem row9_ok : rowOk 9 row9 = true := by decide +kernel
def rowAt (Q : Nat) : List (Nat × Nat × Nat) := match Q with
 | 0 => row0
 | 3 => row3
 | 4 => row4
 | 5 => row5
 | 6 => row6
 | 7 => row7
 | 8 => row8
 | 9 => row9
 | _ => []
theorem rowAt_ok (Q : Nat) {k cw sw : Nat} (hm : (k, cw, sw) ∈ rowAt Q) : Entry Q k cw sw := by
 match Q, hm with
 | 0, hm => exact row_entry row0_ok hm
 | 3, hm => exact row_entry row3_ok hm
 | 4, hm => exact row_entry row4_ok hm
 | 5, hm => exact row_entry row5_ok hm
 | 6, hm => exact row_entry row6_ok hm
 | 7, hm => exact row_entry row7_ok hm
 | 8, hm => exact row_entry row8_ok hm
 | 9, hm => exact row_entry row9_ok hm
 | 1, hm => cases hm
 | 2, hm => cases hm
 | n + 10, hm => cases hm
end T1
namespace C3
open Go Go.RowKit Go.Proofs.YtalbgklfhabnkaaGreatDoor Ow Pl Dp Dt D3 F1 T0 I0 T1 C0 C1
theorem okV_low {v : Int} (h : OkV v) : -(400 : Int) ≤ de v := by
 rcases h.wd.low with e | e
 ·rw [e, de_zero]; decide
 ·omega
theorem ok_neg {u v : Int} (h : OkV u) (k : OkV v) : de (mulD u v) ≤ 0 :=
 de_mulD h.wd k.wd (by decide) h.e0 k.e0 (by have := okV_low h; have := okV_low k; simp only [K]; omega)
theorem ok_prods {a b : Iv} (h1 : OkV a.1) (h2 : OkV a.2) (k1 : OkV b.1) (k2 : OkV b.2) : ∀ z ∈ J1.prods a b, de z ≤ 0 := fun z hz => by
 simp [J1.prods] at hz
 rcases hz with rfl | rfl | rfl | rfl
 ·exact ok_neg h1 k1
 ·exact ok_neg h1 k2
 ·exact ok_neg h2 k1
 ·exact ok_neg h2 k2
theorem dTurned {A0 B0 C0 D0 : Option Addr} {a0 b0 c0 d0 : Nat} {A1 B1 C1 D1 : Option Addr} {a1 b1 c1 d1 : Nat} {p q : Pt} {n : Nat} {nn : Int} (w : World) (T : Tab w)
  (h0 : Dv w A0 a0 p.1.1 400 3) (h1 : Dv w B0 b0 p.1.2 400 3) (h2 : Dv w C0 c0 p.2.1 400 3) (h3 : Dv w D0 d0 p.2.2 400 3)
  (k0 : Dv w A1 a1 q.1.1 400 3) (k1 : Dv w B1 b1 q.1.2 400 3) (k2 : Dv w C1 c1 q.2.1 400 3) (k3 : Dv w D1 d1 q.2.2 400 3)
  (hn : n ≤ 3000) (hnn : (n : Int) = nn) (op : OkP p) (oq : OkP q) (or : OkP (turned p q n)) :
  Calls Tryz.prog 198 #[.agg #[.bool (dneg p.1.1), .slice A0 (digs (dm p.1.1)).length a0, .int .i64 (de p.1.1), .bool (dneg p.1.2), .slice B0 (digs (dm p.1.2)).length b0, .int .i64 (de p.1.2), .bool (dneg p.2.1), .slice C0 (digs (dm p.2.1)).length c0, .int .i64 (de p.2.1), .bool (dneg p.2.2), .slice D0 (digs (dm p.2.2)).length d0, .int .i64 (de p.2.2)],
   .agg #[.bool (dneg q.1.1), .slice A1 (digs (dm q.1.1)).length a1, .int .i64 (de q.1.1), .bool (dneg q.1.2), .slice B1 (digs (dm q.1.2)).length b1, .int .i64 (de q.1.2), .bool (dneg q.2.1), .slice C1 (digs (dm q.2.1)).length c1, .int .i64 (de q.2.1), .bool (dneg q.2.2), .slice D1 (digs (dm q.2.2)).length d1, .int .i64 (de q.2.2)], .int .i64 nn] w (MakesP w (turned p q n) 400 3) :=
 dTurned0 w T h0 h1 h2 h3 k0 k1 k2 k3 hn hnn (ok_prods op.cl op.ch oq.cl oq.ch) (ok_prods op.sl op.sh oq.sl oq.sh) (ok_prods op.sl op.sh oq.cl oq.ch) (ok_prods op.cl op.ch oq.sl oq.sh) rfl rfl rfl rfl or.cl.wd or.ch.wd or.sl.wd or.sh.wd
end C3
namespace I6
open Go Go.RowKit Go.Proofs.YtalbgklfhabnkaaGreatDoor I0
section
variable {P : Program} {ops : Array Oper} {Q : Exit → Act → World → Prop} {md : Region.Mode} {S : World → Prop}
theorem rc2 {i j : Nat} {o o' : Oper} {rest rest' : List Oper} {fuel : Nat} {listed : Array Bool} {a : Act} {w : World}
  (h : ∀ K' : Act → World → Prop, Shut (∀ a w, S w → (S w → wpAnyH P md ops Q S fuel (listed.setIfInBounds i true) a w) → K' a w) → Oper.wp P o a w K' Q)
  (h' : ∀ K' : Act → World → Prop, Shut (∀ a w, S w → (S w → wpAnyH P md ops Q S fuel (listed.setIfInBounds j true) a w) → K' a w) → Oper.wp P o' a w K' Q)
  (hr : Region.ready md ops listed = [i, j] := by kernel_rfl) (hi : ops.toList.drop i = o :: rest := by rfl) (hj : ops.toList.drop j = o' :: rest' := by rfl)
  (hw : Region.wanted o (yielded ops a.tmps) = true := by kernel_rfl) (hw' : Region.wanted o' (yielded ops a.tmps) = true := by kernel_rfl) : wpAnyH P md ops Q S (fuel + 1) listed a w :=
 wpAnyH_ready hr (by simp) (AllReadyH.cons (ops_at hi) (fun K' hK => by rw [if_pos hw]; exact h K' hK) (AllReadyH.cons (ops_at hj) (fun K' hK => by rw [if_pos hw']; exact h' K' hK) AllReadyH.nil))
end
end I6
namespace C4
open Go Go.RowKit Go.Proofs.YtalbgklfhabnkaaGreatDoor Ow Pl Dp Dt D3 F1 T0 I0 C0
attribute [local go_sem ↓] Go.wp_at_zero Go.wp_at_succ
theorem dHalf {A0 B0 : Option Addr} {c0 d0 : Nat} {a r : Iv} {L0 U0 L U bw n : Nat} {nn : Int} (w : World) (T : Tab w) (p0l : Dv w A0 c0 a.1 L0 U0) (p0h : Dv w B0 d0 a.2 L0 U0) (hL : L0 ≤ 2000) (hU : U0 ≤ 2000)
  (KWn : Blk w bw 3 [.int .i64 nn]) (hn : n ≤ 3000) (hnn : (n : Int) = nn) (hs : 0 ≤ sgn (ishift a (-1)).1) (R0 : rootV (ishift a (-1)).1 n false = r.1) (W0 : Wd r.1 L U) (R1 : rootV (ishift a (-1)).2 n true = r.2) (W1 : Wd r.2 L U) :
  Calls Tryz.prog 210 #[.agg #[.bool (dneg a.1), .slice A0 (digs (dm a.1)).length c0, .int .i64 (de a.1), .bool (dneg a.2), .slice B0 (digs (dm a.2)).length d0, .int .i64 (de a.2)], .pointer (some ⟨bw, 0, none⟩)] w (MakesI w r L U) := by
 have HS0 := Ho.mk hs
 have HR0 := Ho.mk R0
 have HR1 := Ho.mk R1
 have HW0 := Ho.mk W0
 have HW1 := Ho.mk W1
 have g0 := ((Bel.refl w).alloc (.cells #[.bool (dneg a.1), .slice A0 (digs (dm a.1)).length c0, .int .i64 (de a.1), .bool (dneg a.2), .slice B0 (digs (dm a.2)).length d0, .int .i64 (de a.2)] 42)).alloc (.cells #[.bool false, .slice none 0 0, .int .i64 0, .bool false, .slice none 0 0, .int .i64 0] 42)
 have TW := Ho.mk (T.bel g0)
 have PL := Ho.mk (p0l.bel g0)
 have PH := Ho.mk (p0h.bel g0)
 have KW := Ho.mk (KWn.bel g0)
 have KB := Ho.mk ((Blk.new w [.bool (dneg a.1), .slice A0 (digs (dm a.1)).length c0, .int .i64 (de a.1), .bool (dneg a.2), .slice B0 (digs (dm a.2)).length d0, .int .i64 (de a.2)] 42).old (.cells #[.bool false, .slice none 0 0, .int .i64 0, .bool false, .slice none 0 0, .int .i64 0] 42))
 have KR := Ho.mk (Blk.new (w.alloc (.cells #[.bool (dneg a.1), .slice A0 (digs (dm a.1)).length c0, .int .i64 (de a.1), .bool (dneg a.2), .slice B0 (digs (dm a.2)).length d0, .int .i64 (de a.2)] 42)) [.bool false, .slice none 0 0, .int .i64 0, .bool false, .slice none 0 0, .int .i64 0] 42)
 rw [World.size_alloc] at KR
 have G0 := Ho.mk g0
 have ws : (( w.alloc (.cells #[.bool (dneg a.1), .slice A0 (digs (dm a.1)).length c0, .int .i64 (de a.1), .bool (dneg a.2), .slice B0 (digs (dm a.2)).length d0, .int .i64 (de a.2)] 42)).alloc (.cells #[.bool false, .slice none 0 0, .int .i64 0, .bool false, .slice none 0 0, .int .i64 0] 42)).heap.size = w.heap.size + 2 := by simp only [World.size_alloc]
 clear T p0l p0h KWn hs R0 W0 R1 W1 g0
 go_enter Tryz.func210, Tryz.ntmps210
 go_wp2_with fail
 generalize (w.alloc (.cells #[.bool (dneg a.1), .slice A0 (digs (dm a.1)).length c0, .int .i64 (de a.1), .bool (dneg a.2), .slice B0 (digs (dm a.2)).length d0, .int .i64 (de a.2)] 42)).alloc (.cells #[.bool false, .slice none 0 0, .int .i64 0, .bool false, .slice none 0 0, .int .i64 0] 42) = W at *
 have WS := Ho.mk ws
 clear ws
 obtain ⟨yb0, yb1, yb2, yb3, yb4, yb5⟩ := KB.out.c6
 have yw := KW.out.cell (i := 0) rfl
 refine wp_region_held_drew (S := fun w' => Bel W w') (by kernel_rfl) (Bel.refl _).drew (fun hHeld => ?_)
 (try dsimp only at hHeld)
 refine rl (i := 0) (v := ?_) hHeld (fun w hSw => ?_) ?_
 rotate_left
 ·(have z0 := hSw.cell yb0; have z1 := hSw.cell yb1; have z2 := hSw.cell yb2; have z3 := hSw.cell yb3; have z4 := hSw.cell yb4; have z5 := hSw.cell yb5; go_simp; try (with_reducible rfl))
 refine rl (i := 2) (v := ?_) hHeld (fun w hSw => ?_) ?_
 rotate_left
 ·(have z0 := hSw.cell yw; go_simp; try (with_reducible rfl))
 clear yb0 yb1 yb2 yb3 yb4 yb5 yw
 try simp only [Act.put, Ow.zS, Ow.zC, Ow.zD]
 refine I6.rc2 (i := 1) (j := 7) (fun K hK => ?_) (fun K hK => ?_)
 ·go_simp
  go_at_call 212
  refine (I3.dShiftI (N := 1) _ (TW.out.bel ((Bel.refl W).drew)) (PL.out.bel ((Bel.refl W).drew)) (PH.out.bel ((Bel.refl W).drew)) (by omega) (by omega) (by omega) (by omega) (by omega)).mono ?_
  rintro e w1 ⟨A1, c1, B1, d1, rfl, n1, m1, b1⟩
  try go_wp2_with fail
  refine hK.out _ _ (Bel.trans hHeld b1) (fun hHeld => ?_)
  clear hK K
  try simp only [Act.put, Ow.zS, Ow.zC, Ow.zD]
  refine I6.rc2 (i := 3) (j := 7) (fun K hK => ?_) (fun K hK => ?_)
  ·go_simp
   go_at_call 211
   refine (I3.dRootI (i := r) _ (TW.out.bel (((Bel.refl W).drew).trans b1)) (n1.bel (Bel.refl w1)) (m1.bel (Bel.refl w1)) (by omega) (by omega) hn hnn HS0.out HR0.out HW0.out HR1.out HW1.out).mono ?_
   rintro e w2 ⟨A2, c2, B2, d2, rfl, n2, m2, b2⟩
   try go_wp2_with fail
   refine hK.out _ _ (Bel.trans hHeld b2) (fun hHeld => ?_)
   clear hK K
   refine rt (i := 4) hHeld ?_
   refine rt (i := 5) hHeld ?_
   refine rt (i := 6) hHeld ?_
   try simp only [Act.put, Ow.zS, Ow.zC, Ow.zD]
   refine rc (i := 7) (fun K hK => ?_)
   go_simp
   refine hK.out _ _ (Bel.alloc hHeld _) (fun hHeld => ?_)
   clear hK K
   have NB := Ho.mk (Bel.alloc (((((Bel.refl W).drew).trans b1).trans b2)) (.cells #[.bool (dneg r.1), .slice A2 (digs (dm r.1)).length c2, .int .i64 (de r.1), .bool (dneg r.2), .slice B2 (digs (dm r.2)).length d2, .int .i64 (de r.2)] 42))
   have KF := Ho.mk (Blk.new (w2) [.bool (dneg r.1), .slice A2 (digs (dm r.1)).length c2, .int .i64 (de r.1), .bool (dneg r.2), .slice B2 (digs (dm r.2)).length d2, .int .i64 (de r.2)] 42)
   have D0 := Ho.mk (n2.bel ((Bel.refl w2).alloc (.cells #[.bool (dneg r.1), .slice A2 (digs (dm r.1)).length c2, .int .i64 (de r.1), .bool (dneg r.2), .slice B2 (digs (dm r.2)).length d2, .int .i64 (de r.2)] 42)))
   have D1 := Ho.mk (m2.bel ((Bel.refl w2).alloc (.cells #[.bool (dneg r.1), .slice A2 (digs (dm r.1)).length c2, .int .i64 (de r.1), .bool (dneg r.2), .slice B2 (digs (dm r.2)).length d2, .int .i64 (de r.2)] 42)))
   clear n1 m1 n2 m2 hHeld
   try simp only [Act.put, Ow.zS, Ow.zC, Ow.zD]
   refine rc (i := 8) (fun K hK => ?_)
   go_simp
   refine hK.out _ _ NB.out (fun hHeld => ?_)
   clear hK K
   refine rt (i := 9) hHeld ?_
   try simp only [Act.put, Ow.zS, Ow.zC, Ow.zD]
   refine wpAnyH_done (by kernel_rfl) ?_ _
   generalize hwf : World.alloc (w2) (.cells #[.bool (dneg r.1), .slice A2 (digs (dm r.1)).length c2, .int .i64 (de r.1), .bool (dneg r.2), .slice B2 (digs (dm r.2)).length d2, .int .i64 (de r.2)] 42) = wf at *
   have HH := NB
   clear hHeld hwf
   have KR2 := Ho.mk (KR.out.bel HH.out)
   have y0 := KF.out.cell (i := 0) rfl
   have x0 := KR2.out.cell (i := 0) rfl
   have z0 := KR2.out.free 0
   have y1 := KF.out.cell (i := 1) rfl
   have x1 := KR2.out.cell (i := 1) rfl
   have z1 := KR2.out.free 1
   have y2 := KF.out.cell (i := 2) rfl
   have x2 := KR2.out.cell (i := 2) rfl
   have z2 := KR2.out.free 2
   have y3 := KF.out.cell (i := 3) rfl
   have x3 := KR2.out.cell (i := 3) rfl
   have z3 := KR2.out.free 3
   have y4 := KF.out.cell (i := 4) rfl
   have x4 := KR2.out.cell (i := 4) rfl
   have z4 := KR2.out.free 4
   have y5 := KF.out.cell (i := 5) rfl
   have x5 := KR2.out.cell (i := 5) rfl
   have z5 := KR2.out.free 5
   go_wp2
   exact I0.gives_endI (fn := Tryz.f210) rfl rfl (G0.out.trans HH.out) (by have := WS.out; omega) KR2.out D0.out D1.out
  ·go_simp
   refine hK.out _ _ (Bel.alloc hHeld _) (fun hHeld => ?_)
   clear hK K
   try simp only [Act.put, Ow.zS, Ow.zC, Ow.zD]
   refine rc (i := 3) (fun K hK => ?_)
   go_simp
   go_at_call 211
   refine (I3.dRootI (i := r) _ (TW.out.bel ((((Bel.refl W).drew).trans b1).alloc (.cells #[.bool false, .slice none 0 0, .int .i64 0, .bool false, .slice none 0 0, .int .i64 0] 42))) (n1.bel ((Bel.refl w1).alloc (.cells #[.bool false, .slice none 0 0, .int .i64 0, .bool false, .slice none 0 0, .int .i64 0] 42))) (m1.bel ((Bel.refl w1).alloc (.cells #[.bool false, .slice none 0 0, .int .i64 0, .bool false, .slice none 0 0, .int .i64 0] 42))) (by omega) (by omega) hn hnn HS0.out HR0.out HW0.out HR1.out HW1.out).mono ?_
   rintro e w2 ⟨A2, c2, B2, d2, rfl, n2, m2, b2⟩
   try go_wp2_with fail
   refine hK.out _ _ (Bel.trans hHeld b2) (fun hHeld => ?_)
   clear hK K
   refine rt (i := 4) hHeld ?_
   refine rt (i := 5) hHeld ?_
   refine rt (i := 6) hHeld ?_
   have b4le : W.heap.size ≤ (w1).heap.size := (((Bel.refl W).drew).trans b1).size
   have K4 := Ho.mk (show Blk (w2) (w1).heap.size 42 [.bool false, .slice none 0 0, .int .i64 0, .bool false, .slice none 0 0, .int .i64 0] from (Blk.new (w1) [.bool false, .slice none 0 0, .int .i64 0, .bool false, .slice none 0 0, .int .i64 0] 42).bel ((Bel.refl (w1.alloc (.cells #[.bool false, .slice none 0 0, .int .i64 0, .bool false, .slice none 0 0, .int .i64 0] 42))).trans b2))
   have Q0 := Ho.mk (n2.bel (Bel.refl w2))
   have Q1 := Ho.mk (m2.bel (Bel.refl w2))
   have y0 := K4.out.cell (i := 0) rfl
   have z0 := K4.out.free 0
   have y1 := K4.out.cell (i := 1) rfl
   have z1 := K4.out.free 1
   have y2 := K4.out.cell (i := 2) rfl
   have z2 := K4.out.free 2
   have y3 := K4.out.cell (i := 3) rfl
   have z3 := K4.out.free 3
   have y4 := K4.out.cell (i := 4) rfl
   have z4 := K4.out.free 4
   have y5 := K4.out.cell (i := 5) rfl
   have z5 := K4.out.free 5
   clear n1 m1 n2 m2
   try simp only [Act.put, Ow.zS, Ow.zC, Ow.zD]
   refine rc (i := 8) (fun K hK => ?_)
   go_simp
   refine hK.out _ _ (bel_set6 hHeld b4le _ _ _ _ _ _) (fun hHeld => ?_)
   clear hK K
   refine rt (i := 9) hHeld ?_
   try simp only [Act.put, Ow.zS, Ow.zC, Ow.zD]
   refine wpAnyH_done (by kernel_rfl) ?_ _
   clear y0 y1 y2 y3 y4 y5 z0 z1 z2 z3 z4 z5
   have KF := Ho.mk (blk_set6 K4.out (.bool (dneg r.1)) (.slice A2 (digs (dm r.1)).length c2) (.int .i64 (de r.1)) (.bool (dneg r.2)) (.slice B2 (digs (dm r.2)).length d2) (.int .i64 (de r.2)))
   have D0 := Ho.mk (dv_set6 Q0.out K4.out (.bool (dneg r.1)) (.slice A2 (digs (dm r.1)).length c2) (.int .i64 (de r.1)) (.bool (dneg r.2)) (.slice B2 (digs (dm r.2)).length d2) (.int .i64 (de r.2)))
   have D1 := Ho.mk (dv_set6 Q1.out K4.out (.bool (dneg r.1)) (.slice A2 (digs (dm r.1)).length c2) (.int .i64 (de r.1)) (.bool (dneg r.2)) (.slice B2 (digs (dm r.2)).length d2) (.int .i64 (de r.2)))
   obtain ⟨wf, hwf⟩ : ∃ wf, set6 (w2) (w1).heap.size (.bool (dneg r.1)) (.slice A2 (digs (dm r.1)).length c2) (.int .i64 (de r.1)) (.bool (dneg r.2)) (.slice B2 (digs (dm r.2)).length d2) (.int .i64 (de r.2)) = wf := ⟨_, rfl⟩
   have HH := Ho.mk (show Bel W (set6 (w2) (w1).heap.size (.bool (dneg r.1)) (.slice A2 (digs (dm r.1)).length c2) (.int .i64 (de r.1)) (.bool (dneg r.2)) (.slice B2 (digs (dm r.2)).length d2) (.int .i64 (de r.2))) from hHeld)
   clear hHeld
   rw [hwf] at KF D0 D1 HH
   unfold set6 at hwf
   rw [hwf]
   have KR2 := Ho.mk (KR.out.bel HH.out)
   have y0 := KF.out.cell (i := 0) rfl
   have x0 := KR2.out.cell (i := 0) rfl
   have z0 := KR2.out.free 0
   have y1 := KF.out.cell (i := 1) rfl
   have x1 := KR2.out.cell (i := 1) rfl
   have z1 := KR2.out.free 1
   have y2 := KF.out.cell (i := 2) rfl
   have x2 := KR2.out.cell (i := 2) rfl
   have z2 := KR2.out.free 2
   have y3 := KF.out.cell (i := 3) rfl
   have x3 := KR2.out.cell (i := 3) rfl
   have z3 := KR2.out.free 3
   have y4 := KF.out.cell (i := 4) rfl
   have x4 := KR2.out.cell (i := 4) rfl
   have z4 := KR2.out.free 4
   have y5 := KF.out.cell (i := 5) rfl
   have x5 := KR2.out.cell (i := 5) rfl
   have z5 := KR2.out.free 5
   clear hwf
   go_wp2
   exact I0.gives_endI (fn := Tryz.f210) rfl rfl (G0.out.trans HH.out) (by have := WS.out; omega) KR2.out D0.out D1.out
 ·go_simp
  refine hK.out _ _ (Bel.alloc hHeld _) (fun hHeld => ?_)
  clear hK K
  try simp only [Act.put, Ow.zS, Ow.zC, Ow.zD]
  refine rc (i := 1) (fun K hK => ?_)
  go_simp
  go_at_call 212
  refine (I3.dShiftI (N := 1) _ (TW.out.bel (((Bel.refl W).drew).alloc (.cells #[.bool false, .slice none 0 0, .int .i64 0, .bool false, .slice none 0 0, .int .i64 0] 42))) (PL.out.bel (((Bel.refl W).drew).alloc (.cells #[.bool false, .slice none 0 0, .int .i64 0, .bool false, .slice none 0 0, .int .i64 0] 42))) (PH.out.bel (((Bel.refl W).drew).alloc (.cells #[.bool false, .slice none 0 0, .int .i64 0, .bool false, .slice none 0 0, .int .i64 0] 42))) (by omega) (by omega) (by omega) (by omega) (by omega)).mono ?_
  rintro e w1 ⟨A1, c1, B1, d1, rfl, n1, m1, b1⟩
  try go_wp2_with fail
  refine hK.out _ _ (Bel.trans hHeld b1) (fun hHeld => ?_)
  clear hK K
  try simp only [Act.put, Ow.zS, Ow.zC, Ow.zD]
  refine rc (i := 3) (fun K hK => ?_)
  go_simp
  go_at_call 211
  refine (I3.dRootI (i := r) _ (TW.out.bel ((((Bel.refl W).drew).alloc (.cells #[.bool false, .slice none 0 0, .int .i64 0, .bool false, .slice none 0 0, .int .i64 0] 42)).trans b1)) (n1.bel (Bel.refl w1)) (m1.bel (Bel.refl w1)) (by omega) (by omega) hn hnn HS0.out HR0.out HW0.out HR1.out HW1.out).mono ?_
  rintro e w2 ⟨A2, c2, B2, d2, rfl, n2, m2, b2⟩
  try go_wp2_with fail
  refine hK.out _ _ (Bel.trans hHeld b2) (fun hHeld => ?_)
  clear hK K
  refine rt (i := 4) hHeld ?_
  refine rt (i := 5) hHeld ?_
  refine rt (i := 6) hHeld ?_
  have b4le : W.heap.size ≤ W.heap.size := ((Bel.refl W).drew).size
  have K4 := Ho.mk (show Blk (w2) W.heap.size 42 [.bool false, .slice none 0 0, .int .i64 0, .bool false, .slice none 0 0, .int .i64 0] from (Blk.new (W.drew) [.bool false, .slice none 0 0, .int .i64 0, .bool false, .slice none 0 0, .int .i64 0] 42).bel (((Bel.refl (W.drew.alloc (.cells #[.bool false, .slice none 0 0, .int .i64 0, .bool false, .slice none 0 0, .int .i64 0] 42))).trans b1).trans b2))
  have Q0 := Ho.mk (n2.bel (Bel.refl w2))
  have Q1 := Ho.mk (m2.bel (Bel.refl w2))
  have y0 := K4.out.cell (i := 0) rfl
  have z0 := K4.out.free 0
  have y1 := K4.out.cell (i := 1) rfl
  have z1 := K4.out.free 1
  have y2 := K4.out.cell (i := 2) rfl
  have z2 := K4.out.free 2
  have y3 := K4.out.cell (i := 3) rfl
  have z3 := K4.out.free 3
  have y4 := K4.out.cell (i := 4) rfl
  have z4 := K4.out.free 4
  have y5 := K4.out.cell (i := 5) rfl
  have z5 := K4.out.free 5
  clear n1 m1 n2 m2
  try simp only [Act.put, Ow.zS, Ow.zC, Ow.zD]
  refine rc (i := 8) (fun K hK => ?_)
  go_simp
  refine hK.out _ _ (bel_set6 hHeld b4le _ _ _ _ _ _) (fun hHeld => ?_)
  clear hK K
  refine rt (i := 9) hHeld ?_
  try simp only [Act.put, Ow.zS, Ow.zC, Ow.zD]
  refine wpAnyH_done (by kernel_rfl) ?_ _
  clear y0 y1 y2 y3 y4 y5 z0 z1 z2 z3 z4 z5
  have KF := Ho.mk (blk_set6 K4.out (.bool (dneg r.1)) (.slice A2 (digs (dm r.1)).length c2) (.int .i64 (de r.1)) (.bool (dneg r.2)) (.slice B2 (digs (dm r.2)).length d2) (.int .i64 (de r.2)))
  have D0 := Ho.mk (dv_set6 Q0.out K4.out (.bool (dneg r.1)) (.slice A2 (digs (dm r.1)).length c2) (.int .i64 (de r.1)) (.bool (dneg r.2)) (.slice B2 (digs (dm r.2)).length d2) (.int .i64 (de r.2)))
  have D1 := Ho.mk (dv_set6 Q1.out K4.out (.bool (dneg r.1)) (.slice A2 (digs (dm r.1)).length c2) (.int .i64 (de r.1)) (.bool (dneg r.2)) (.slice B2 (digs (dm r.2)).length d2) (.int .i64 (de r.2)))
  obtain ⟨wf, hwf⟩ : ∃ wf, set6 (w2) W.heap.size (.bool (dneg r.1)) (.slice A2 (digs (dm r.1)).length c2) (.int .i64 (de r.1)) (.bool (dneg r.2)) (.slice B2 (digs (dm r.2)).length d2) (.int .i64 (de r.2)) = wf := ⟨_, rfl⟩
  have HH := Ho.mk (show Bel W (set6 (w2) W.heap.size (.bool (dneg r.1)) (.slice A2 (digs (dm r.1)).length c2) (.int .i64 (de r.1)) (.bool (dneg r.2)) (.slice B2 (digs (dm r.2)).length d2) (.int .i64 (de r.2))) from hHeld)
  clear hHeld
  rw [hwf] at KF D0 D1 HH
  unfold set6 at hwf
  rw [hwf]
  have KR2 := Ho.mk (KR.out.bel HH.out)
  have y0 := KF.out.cell (i := 0) rfl
  have x0 := KR2.out.cell (i := 0) rfl
  have z0 := KR2.out.free 0
  have y1 := KF.out.cell (i := 1) rfl
  have x1 := KR2.out.cell (i := 1) rfl
  have z1 := KR2.out.free 1
  have y2 := KF.out.cell (i := 2) rfl
  have x2 := KR2.out.cell (i := 2) rfl
  have z2 := KR2.out.free 2
  have y3 := KF.out.cell (i := 3) rfl
  have x3 := KR2.out.cell (i := 3) rfl
  have z3 := KR2.out.free 3
  have y4 := KF.out.cell (i := 4) rfl
  have x4 := KR2.out.cell (i := 4) rfl
  have z4 := KR2.out.free 4
  have y5 := KF.out.cell (i := 5) rfl
  have x5 := KR2.out.cell (i := 5) rfl
  have z5 := KR2.out.free 5
  clear hwf
  go_wp2
  exact I0.gives_endI (fn := Tryz.f210) rfl rfl (G0.out.trans HH.out) (by have := WS.out; omega) KR2.out D0.out D1.out
end C4
namespace I7
open Go Go.RowKit Go.Proofs.YtalbgklfhabnkaaGreatDoor I0
section
variable {P : Program} {ops : Array Oper} {Q : Exit → Act → World → Prop} {md : Region.Mode} {S : World → Prop} {s : Nat}
def wpAnyL (P : Program) (md : Region.Mode) (ops : Array Oper) (Q : Exit → Act → World → Prop) (S : World → Prop) (s : Nat) : Nat → Array Bool → Act → World → Prop
 | 0, listed, a, w => Region.ready md ops listed = [] ∧ Q .normal a w
 | fuel + 1, listed, a, w =>
  (Region.ready md ops listed = [] → Q .normal a w) ∧
  ∀ i ∈ Region.ready md ops listed, if s ≤ i then wpOp P ops Q i (fun a' w' => wpAny P md ops Q fuel (listed.setIfInBounds i true) a' w') a w
   else wpOp P ops Q i (fun a' w' => S w' ∧ wpAnyL P md ops Q S s fuel (listed.setIfInBounds i true) a' w') a w
theorem wpAny_of_late : ∀ (fuel : Nat) (listed : Array Bool) (a : Act) (w : World), wpAnyL P md ops Q S s fuel listed a w → wpAny P md ops Q fuel listed a w
 | 0, _, _, _, h => h
 | fuel + 1, _, _, _, h => ⟨h.1, fun i hi => by
   have := h.2 i hi
   split at this
   ·exact this
   ·exact wpOp_mono (fun a' w' h' => wpAny_of_late fuel _ a' w' h'.2) this⟩
def behind (md : Region.Mode) (ops : Array Oper) : Nat → Nat → Nat → Bool
 | 0, _, _ => false
 | f + 1, j, i => match ops[j]? with
  | some o => o.after.any fun e => Region.binds md e && (e.on == i || behind md ops f e.on i)
  | none => false
def lateOk (md : Region.Mode) (ops : Array Oper) (s : Nat) : Bool := (List.range ops.size).all fun j => decide (j < s) || (List.range s).all fun i => behind md ops ops.size j i
def shutL (md : Region.Mode) (ops : Array Oper) (listed : Array Bool) : Prop := ∀ k, listed.getD k false = true → ∀ o, ops[k]? = some o → ∀ e ∈ o.after, Region.binds md e = true → listed.getD e.on false = true
theorem getD_mono {listed : Array Bool} {j k : Nat} (h : listed.getD k false = true) : (listed.setIfInBounds j true).getD k false = true := by
 simp only [Array.getD_eq_getD_getElem?] at *
 by_cases e : j = k
 ·subst e
  rw [Array.getElem?_setIfInBounds_self]
  rcases Nat.lt_or_ge j listed.size with q | q
  ·simp [q]
  ·rw [Array.getElem?_eq_none q] at h; simp at h
 ·rw [Array.getElem?_setIfInBounds_ne e]; exact h
theorem shut_step {listed : Array Bool} {j : Nat} (h : shutL md ops listed) (hj : j ∈ Region.ready md ops listed) : shutL md ops (listed.setIfInBounds j true) := by
 intro k hk o ho e he hb
 by_cases ek : j = k
 ·subst ek
  obtain ⟨_, o', ho', hall⟩ := mem_ready.1 hj
  rw [ho] at ho'; cases ho'
  exact getD_mono (hall e he hb)
 ·refine getD_mono (h k ?_ o ho e he hb)
  simp only [Array.getD_eq_getD_getElem?] at hk ⊢
  rwa [Array.getElem?_setIfInBounds_ne ek] at hk
theorem behind_listed {listed : Array Bool} (h : shutL md ops listed) {i : Nat} : ∀ f k, listed.getD k false = true → behind md ops f k i = true → listed.getD i false = true
 | 0, _, _, hb => by simp [behind] at hb
 | f + 1, k, hk, hb => by
  unfold behind at hb
  split at hb
  ·rename_i o ho
   obtain ⟨e, he, hc⟩ := Array.any_eq_true'.1 hb
   rw [Bool.and_eq_true, Bool.or_eq_true, beq_iff_eq] at hc
   have := h k hk o ho e he hc.1
   rcases hc.2 with q | q
   ·rw [← q]; exact this
   ·exact behind_listed h f e.on this q
  ·cases hb
theorem late_waits (hl : lateOk md ops s = true) {listed : Array Bool} (h : shutL md ops listed) {i j : Nat} (hi : i ∈ Region.ready md ops listed) (his : i < s) (hj : j ∈ Region.ready md ops listed) : j < s := by
 rcases Nat.lt_or_ge j s with q | q
 ·exact q
 ·exfalso
  obtain ⟨_, o, ho, hall⟩ := mem_ready.1 hj
  have hjs : j < ops.size := (Array.getElem?_eq_some_iff.1 ho).1
  have := List.all_eq_true.1 hl j (List.mem_range.2 hjs)
  rw [Bool.or_eq_true, decide_eq_true_eq] at this
  have hb := List.all_eq_true.1 (this.resolve_left (by omega)) i (List.mem_range.2 his)
  have hun := (mem_ready.1 hi).1
  have : listed.getD i false = true := by
   cases hf : ops.size with
   | zero => omega
   | succ f =>
    rw [hf] at hb
    unfold behind at hb
    rw [ho] at hb
    obtain ⟨e, he, hc⟩ := Array.any_eq_true'.1 hb
    rw [Bool.and_eq_true, Bool.or_eq_true, beq_iff_eq] at hc
    have hx := hall e he hc.1
    rcases hc.2 with q | q
    ·rw [← q]; exact hx
    ·exact behind_listed h f e.on hx q
  simp only [Array.getD_eq_getD_getElem?] at this hun
  rcases Nat.lt_or_ge i listed.size with q | q
  ·simp [q] at this hun; rw [this] at hun; cases hun
  ·simp [Array.getElem?_eq_none q] at this
theorem getD_ne {listed : Array Bool} {j k : Nat} (h : j ≠ k) (d : Bool) : (listed.setIfInBounds j true).getD k d = listed.getD k d := by
 simp only [Array.getD_eq_getD_getElem?]; rw [Array.getElem?_setIfInBounds_ne h]
theorem rdy_mono {listed : Array Bool} {i j : Nat} (hr : i ∈ Region.ready md ops listed) (h : j ≠ i) : i ∈ Region.ready md ops (listed.setIfInBounds j true) := by
 obtain ⟨h1, o, h2, h3⟩ := mem_ready.1 hr
 exact mem_ready.2 ⟨by rw [getD_ne h]; exact h1, o, h2, fun e he hb => getD_mono (h3 e he hb)⟩
theorem wpAnyL_first {i : Nat} {oi : Oper} {v : Value} (hi : ops[i]? = some oi) (hsel : ∀ (j : Nat) (o : Oper) cs b, ops[j]? = some o → o.op ≠ .select cs b)
  (hQ : ∀ c a w, Q (.panic c) (a.put oi.dst v) w → Q (.panic c) a w) (his : i < s) (hl : lateOk md ops s = true) :
  ∀ (fuel : Nat) (listed : Array Bool) (a : Act) (w : World), shutL md ops listed →
   (∀ j oj, ops[j]? = some oj → j ≠ i → listed.getD j true = false → (∀ e ∈ oj.after, Region.binds md e = true → e.on ≠ i) → oi.apart ops oj = true) →
   i ∈ Region.ready md ops listed → YieldsIf P ops S oi v a → S w →
   wpAnyL P md ops Q S s fuel (listed.setIfInBounds i true) (a.put oi.dst v) w → wpAnyL P md ops Q S s (fuel + 1) listed a w := by
 intro fuel
 induction fuel with
 | zero =>
  intro listed a w hc _ hr hy hS H
  refine ⟨fun h => (by rw [h] at hr; cases hr), fun j hj => ?_⟩
  rw [if_neg (by have := late_waits hl hc hr his hj; omega)]
  by_cases hji : j = i
  ·subst hji; exact hy.wpOp hi hS ⟨hS, H⟩
  ·have := rdy_mono hj (Ne.symm hji)
   rw [H.1] at this
   cases this
 | succ fuel ih =>
  intro listed a w hc hfree hr hy hS H
  refine ⟨fun h => (by rw [h] at hr; cases hr), fun j hj => ?_⟩
  have hjs := late_waits hl hc hr his hj
  rw [if_neg (by omega)]
  by_cases hji : j = i
  ·subst hji; exact hy.wpOp hi hS ⟨hS, H⟩
  ·have h1 := H.2 j (rdy_mono hj (Ne.symm hji))
   rw [if_neg (by omega)] at h1
   obtain ⟨hjun, oj, hoj, hall⟩ := mem_ready.1 hj
   have hnot : ∀ e ∈ oj.after, Region.binds md e = true → e.on ≠ i := fun e he hb heq => by
    have h1 := hall e he hb
    have h0 := (mem_ready.1 hr).1
    rw [heq] at h1
    simp only [Array.getD_eq_getD_getElem?] at h0 h1
    rcases Nat.lt_or_ge i listed.size with h' | h'
    ·simp [h'] at h0 h1; rw [h0] at h1; cases h1
    ·simp [Array.getElem?_eq_none h'] at h1
   have h2 := wpOp_putIf hoj (hfree j oj hoj hji hjun hnot) (fun cs b => hsel i oi cs b hi) (fun cs b => hsel j oj cs b hoj) hQ hy h1
   have hfree' : ∀ k ok, ops[k]? = some ok → k ≠ i → (listed.setIfInBounds j true).getD k true = false →
     (∀ e ∈ ok.after, Region.binds md e = true → e.on ≠ i) → oi.apart ops ok = true := fun k ok hk hki hun hno => by
    refine hfree k ok hk hki ?_ hno
    by_cases hjk : j = k
    ·subst hjk; exact hjun
    ·rw [getD_ne hjk] at hun; exact hun
   refine wpOp_mono (fun a' w' h3 => ⟨h3.2.1, ih (listed.setIfInBounds j true) a' w' (shut_step hc hj) hfree' (rdy_mono hr hji) h3.1 h3.2.1 ?_⟩) h2
   rw [Array.setIfInBounds_comm _ _ hji]
   exact h3.2.2
def walkL (P : Program) (md : Region.Mode) (ops : Array Oper) (Q : Exit → Act → World → Prop) (S : World → Prop) (s fuel : Nat) (listed : Array Bool) (a : Act) (w : World) : Prop :=
 shutL md ops listed → wpAnyL P md ops Q S s fuel listed a w
theorem l_take {i : Nat} {oi : Oper} {rest : List Oper} {v : Value} {fuel : Nat} {listed : Array Bool} {a : Act} {w : World} (hi : ops.toList.drop i = oi :: rest) (hl : lateOk md ops s = true) (his : i < s)
  (hs : Region.noSelect ops = true) (hf : Region.free md ops listed i = true) (hr : (Region.ready md ops listed).contains i = true)
  (hQ : ∀ c a w, Q (.panic c) (a.put oi.dst v) w → Q (.panic c) a w) (hy : YieldsIf P ops S oi v a) (hS : S w)
  (h : walkL P md ops Q S s fuel (listed.setIfInBounds i true) (a.put oi.dst v) w) : walkL P md ops Q S s (fuel + 1) listed a w := fun hc => by
 have hr' : i ∈ Region.ready md ops listed := by simpa using hr
 exact wpAnyL_first (ops_at hi) (Region.noSelect_spec hs) hQ his hl fuel listed a w hc (Region.free_spec (ops_at hi) hf) hr' hy hS (h (shut_step hc hr'))
theorem kt {i : Nat} {oi : Oper} {rest : List Oper} {v : Value} {fuel : Nat} {listed : Array Bool} {a : Act} {w : World} (hS : S w)
  (h : walkL P md ops Q S s fuel (listed.setIfInBounds i true) (a.put oi.dst v) w)
  (hi : ops.toList.drop i = oi :: rest := by rfl) (hl : lateOk md ops s = true := by kernel_rfl) (his : i < s := by decide) (hs : Region.noSelect ops = true := by kernel_rfl) (hf : Region.free md ops listed i = true := by kernel_rfl) (hr : (Region.ready md ops listed).contains i = true := by kernel_rfl)
  (hQ : ∀ c a w, Q (.panic c) (a.put oi.dst v) w → Q (.panic c) a w := by exact fun _ _ _ h => h) (hw : Region.wanted oi (yielded ops a.tmps) = true := by kernel_rfl)
  (hv : ∀ w, S w → (execOp a.eval oi).run P w = .ok (.value v) w := by (intro w hSw; go_simp; try (with_reducible rfl))) : walkL P md ops Q S s (fuel + 1) listed a w :=
 l_take hi hl his hs hf hr hQ (.inl ⟨hw, hv⟩) hS h
theorem kl {i : Nat} {oi : Oper} {rest : List Oper} {v : Value} {fuel : Nat} {listed : Array Bool} {a : Act} {w : World} (hS : S w)
  (hv : ∀ w, S w → (execOp a.eval oi).run P w = .ok (.value v) w)
  (h : walkL P md ops Q S s fuel (listed.setIfInBounds i true) (a.put oi.dst v) w)
  (hi : ops.toList.drop i = oi :: rest := by rfl) (hl : lateOk md ops s = true := by kernel_rfl) (his : i < s := by decide) (hs : Region.noSelect ops = true := by kernel_rfl) (hf : Region.free md ops listed i = true := by kernel_rfl) (hr : (Region.ready md ops listed).contains i = true := by kernel_rfl)
  (hQ : ∀ c a w, Q (.panic c) (a.put oi.dst v) w → Q (.panic c) a w := by exact fun _ _ _ h => h) (hw : Region.wanted oi (yielded ops a.tmps) = true := by kernel_rfl) : walkL P md ops Q S s (fuel + 1) listed a w :=
 l_take hi hl his hs hf hr hQ (.inl ⟨hw, hv⟩) hS h
theorem kc {i : Nat} {o : Oper} {rest : List Oper} {fuel : Nat} {listed : Array Bool} {a : Act} {w : World}
  (h : ∀ K' : Act → World → Prop, Shut (∀ a w, S w → (S w → walkL P md ops Q S s fuel (listed.setIfInBounds i true) a w) → K' a w) → Oper.wp P o a w K' Q)
  (hr : Region.ready md ops listed = [i] := by kernel_rfl) (his : i < s := by decide) (hi : ops.toList.drop i = o :: rest := by rfl)
  (hw : Region.wanted o (yielded ops a.tmps) = true := by kernel_rfl) : walkL P md ops Q S s (fuel + 1) listed a w := fun hc =>
 ⟨fun h0 => (by rw [hr] at h0; cases h0), fun j hj => by
  have hj' := hj
  rw [hr] at hj'
  have hji : j = i := by simpa using hj'
  subst hji
  rw [if_neg (by omega)]
  have := wpOp_step (P := P) (ops := ops) (Q := Q) (i := j) (a := a) (w := w) (K := fun a' w' => S w' ∧ wpAnyL P md ops Q S s fuel (listed.setIfInBounds j true) a' w') (ops_at hi) (fun K' hK => by
   rw [if_pos hw]; exact h K' (fun a w hS hW => hK a w ⟨hS, hW hS (shut_step hc hj)⟩))
  exact this⟩
theorem ke {i : Nat} {o : Oper} {rest : List Oper} {fuel : Nat} {listed : Array Bool} {a : Act} {w : World}
  (h : ∀ K' : Act → World → Prop, Shut (∀ a w, wpAny P md ops Q fuel (listed.setIfInBounds i true) a w → K' a w) → Oper.wp P o a w K' Q)
  (hr : Region.ready md ops listed = [i] := by kernel_rfl) (his : s ≤ i := by decide) (hi : ops.toList.drop i = o :: rest := by rfl)
  (hw : Region.wanted o (yielded ops a.tmps) = true := by kernel_rfl) : walkL P md ops Q S s (fuel + 1) listed a w := fun hc =>
 ⟨fun h0 => (by rw [hr] at h0; cases h0), fun j hj => by
  rw [hr] at hj
  have hji : j = i := by simpa using hj
  subst hji
  rw [if_pos his]
  exact wpOp_step (ops_at hi) (fun K' hK => by rw [if_pos hw]; exact h K' hK)⟩
theorem ke2 {i : Nat} {o : Oper} {rest : List Oper} {fuel : Nat} {listed : Array Bool} {a : Act} {w : World}
  (h : ∀ K' : Act → World → Prop, Shut (∀ a w, wpAny P md ops Q fuel (listed.setIfInBounds i true) a w → K' a w) → Oper.wp P o a w K' Q)
  (hr : Region.ready md ops listed = [i] := by kernel_rfl) (hi : ops.toList.drop i = o :: rest := by rfl)
  (hw : Region.wanted o (yielded ops a.tmps) = true := by kernel_rfl) : wpAny P md ops Q (fuel + 1) listed a w :=
 wpAny_all hr (by simp) fun j hj => by
  have hji : j = i := by simpa using hj
  subst hji
  exact wpOp_step (ops_at hi) (fun K' hK => by rw [if_pos hw]; exact h K' hK)
theorem shut_none (n : Nat) : shutL md ops (Array.replicate n false) := fun k hk => by
 simp only [Array.getD_eq_getD_getElem?, Array.getElem?_replicate] at hk
 split at hk <;> simp at hk
theorem wp_region_late (s : Nat) {id : Nat} {a : Act} {w : World} (hm : P.follows .mixedOrders = true) (hS : S w.drew)
  (h : S w.drew → walkL P .any ops Q S s ops.size (Array.replicate ops.size false) a w.drew) : (Code.region id ops true).wp P Q a w :=
 wp_region_any hm (wpAny_of_late _ _ _ _ (h hS (shut_none _)))
end
end I7
end Go.Proofs.YtalbgklfhabnkaaGreatDoor
