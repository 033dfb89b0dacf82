/-
  Joined, of what this claim leans on: La, Lb, Pf.
-/
import Derived.Deep.Slices
import Derived.ChangeSame
import Derived.Test.YtnbdoidccacdnaaGreatDoorJInvGiven6
set_option linter.unusedVariables false
set_option linter.unusedSimpArgs false
namespace Go.Proofs.YtnbdoidccacdnaaGreatDoor.La
open Ieee Go Go.RowKit Go.Proofs Go.Proofs.YtnbdoidccacdnaaGreatDoor Ow Dt Gp I0 U0 W0 S4 S6 P0 M0 M1 M2 M3 P4 P5 P6 P8 Pa Pb W4 W5 W1 W2 Pc Pe Pg Ph Go.Proofs.YtnbdoidccacdnaaGreatDoor.Pi Pj Pk Lv
attribute [local go_sem ↓] Go.wp_at_zero Go.wp_at_succ
theorem h1 : ifR [4621819117588971520, 13837309855095848960, 13835058055282163712, 13830554455654793216] [4607182418800017408, 4611686018427387904, 13830554455654793216, 13835058055282163712] = ([4607182418800017408, 4611686018427387904, 4613937818241073152, 4616189618054758400], [0, 0, 0, 4607182418800017408]) ∧ errR [4621819117588971520, 13837309855095848960, 13835058055282163712, 13830554455654793216] [4607182418800017408, 4611686018427387904, 13830554455654793216, 13835058055282163712] = 0 := by decide +kernel
theorem h2 : ifR [] [] = ([], []) ∧ errR [] [] = 2 := by decide +kernel
theorem h3 : invR [4619567317775286272, 4613937818241073152] [4611686018427387904, 0] = ([4617315517961601024, 4611686018427387904], [4607182418800017408, 4607182418800017408]) ∧ errR [4619567317775286272, 4613937818241073152] [4611686018427387904, 0] = 0 := by decide +kernel
theorem h4 : [4613937818241073152].map fng = [13837309855095848960] := by decide +kernel
set_option maxRecDepth 100000 in
set_option maxHeartbeats 16000000 in
theorem head13 (w : World) (T : Tab w) : Calls Tryz.prog 15 #[] w (fun e w' => e = .returned (.bool true) ∧ Bel w w') := by
  have TT := Ho.mk T
  clear T
  go_enter Tryz.func15, Tryz.ntmps15
  go_wp2_with fail
  have K1 := Ho.mk ((Blk.new w [.float .f64 4621819117588971520, .float .f64 13837309855095848960, .float .f64 13835058055282163712, .float .f64 13830554455654793216] 50).old (.cells #[.float .f64 4607182418800017408, .float .f64 4611686018427387904, .float .f64 13830554455654793216, .float .f64 13835058055282163712] 50))
  have K2 := Ho.mk (Blk.new (w.alloc (.cells #[.float .f64 4621819117588971520, .float .f64 13837309855095848960, .float .f64 13835058055282163712, .float .f64 13830554455654793216] 50)) [.float .f64 4607182418800017408, .float .f64 4611686018427387904, .float .f64 13830554455654793216, .float .f64 13835058055282163712] 50)
  simp only [World.size_alloc] at K2
  have g1 := Ho.mk (((Bel.refl w).alloc (.cells #[.float .f64 4621819117588971520, .float .f64 13837309855095848960, .float .f64 13835058055282163712, .float .f64 13830554455654793216] 50)).alloc (.cells #[.float .f64 4607182418800017408, .float .f64 4611686018427387904, .float .f64 13830554455654793216, .float .f64 13835058055282163712] 50))
  generalize (w.alloc (.cells #[.float .f64 4621819117588971520, .float .f64 13837309855095848960, .float .f64 13835058055282163712, .float .f64 13830554455654793216] 50)).alloc (.cells #[.float .f64 4607182418800017408, .float .f64 4611686018427387904, .float .f64 13830554455654793216, .float .f64 13835058055282163712] 50) = v2 at *
  have R3 := Ho.mk (litRow (X := [4621819117588971520, 13837309855095848960, 13835058055282163712, 13830554455654793216]) K1.out rfl (by decide) (n := 4) rfl (by decide))
  have R4 := Ho.mk (litRow (X := [4607182418800017408, 4611686018427387904, 13830554455654793216, 13835058055282163712]) K2.out rfl (by decide) (n := 4) rfl (by decide))
  obtain ⟨X1, Y1, hXY1⟩ : ∃ X Y, (X, Y) = ifR [4621819117588971520, 13837309855095848960, 13835058055282163712, 13830554455654793216] [4607182418800017408, 4611686018427387904, 13830554455654793216, 13835058055282163712] := ⟨_, _, rfl⟩
  have C5 := Ho.mk (pIfft (TT.out.bel g1.out) (inn R3.out (by decide)) (inn R4.out (by decide)) (by decide) (by decide) hXY1 (z := 0) h1.2.symm)
  (with_reducible refine C5.out.mono ?_); rintro e v6 ⟨P1, c1, Q1, d1, rfl, t1, b7⟩
  have b7H := Ho.mk b7
  have T1 := Ho.mk t1
  clear C5 b7 t1
  have HXY1 := Ho.mk (hXY1.trans h1.1)
  clear hXY1
  go_wp2_with fail
  have BX1 := Ho.mk (Blk.new v6 [.slice P1 X1.length c1, .slice Q1 Y1.length d1] 24)
  have g8 := Ho.mk ((Bel.refl v6).alloc (.cells #[.slice P1 X1.length c1, .slice Q1 Y1.length d1] 24))
  generalize v6.alloc (.cells #[.slice P1 X1.length c1, .slice Q1 Y1.length d1] 24) = v9 at *
  obtain ⟨X2, Y2, hXY2⟩ : ∃ X Y, (X, Y) = ifR [] [] := ⟨_, _, rfl⟩
  have C10 := Ho.mk (pIfft (TT.out.bel ((g1.out.trans b7H.out).trans g8.out)) (in_nil _ none) (in_nil _ none) (by decide) (by decide) hXY2 (z := 2) h2.2.symm)
  (with_reducible refine C10.out.mono ?_); rintro e v11 ⟨P2, c2, Q2, d2, rfl, t2, b12⟩
  have b12H := Ho.mk b12
  have T2 := Ho.mk t2
  clear C10 b12 t2
  clear hXY2
  go_wp2_with fail
  have BX2 := Ho.mk ((((Blk.new v11 [.slice P2 X2.length c2, .slice Q2 Y2.length d2] 24).old (.cells #[.float .f64 4619567317775286272, .float .f64 4613937818241073152] 50)).old (.cells #[.float .f64 4611686018427387904, .float .f64 0] 50)).old (.cells #[.slice (some ⟨v11.heap.size + 1, 0, none⟩) 2 2, .slice (some ⟨v11.heap.size + 1 + 1, 0, none⟩) 2 2] 24))
  have K3 := Ho.mk (((Blk.new (v11.alloc (.cells #[.slice P2 X2.length c2, .slice Q2 Y2.length d2] 24)) [.float .f64 4619567317775286272, .float .f64 4613937818241073152] 50).old (.cells #[.float .f64 4611686018427387904, .float .f64 0] 50)).old (.cells #[.slice (some ⟨v11.heap.size + 1, 0, none⟩) 2 2, .slice (some ⟨v11.heap.size + 1 + 1, 0, none⟩) 2 2] 24))
  simp only [World.size_alloc] at K3
  have K4 := Ho.mk ((Blk.new ((v11.alloc (.cells #[.slice P2 X2.length c2, .slice Q2 Y2.length d2] 24)).alloc (.cells #[.float .f64 4619567317775286272, .float .f64 4613937818241073152] 50)) [.float .f64 4611686018427387904, .float .f64 0] 50).old (.cells #[.slice (some ⟨v11.heap.size + 1, 0, none⟩) 2 2, .slice (some ⟨v11.heap.size + 1 + 1, 0, none⟩) 2 2] 24))
  simp only [World.size_alloc] at K4
  have BX5 := Ho.mk (Blk.new (((v11.alloc (.cells #[.slice P2 X2.length c2, .slice Q2 Y2.length d2] 24)).alloc (.cells #[.float .f64 4619567317775286272, .float .f64 4613937818241073152] 50)).alloc (.cells #[.float .f64 4611686018427387904, .float .f64 0] 50)) [.slice (some ⟨v11.heap.size + 1, 0, none⟩) 2 2, .slice (some ⟨v11.heap.size + 1 + 1, 0, none⟩) 2 2] 24)
  simp only [World.size_alloc] at BX5
  have g13 := Ho.mk (((((Bel.refl v11).alloc (.cells #[.slice P2 X2.length c2, .slice Q2 Y2.length d2] 24)).alloc (.cells #[.float .f64 4619567317775286272, .float .f64 4613937818241073152] 50)).alloc (.cells #[.float .f64 4611686018427387904, .float .f64 0] 50)).alloc (.cells #[.slice (some ⟨v11.heap.size + 1, 0, none⟩) 2 2, .slice (some ⟨v11.heap.size + 1 + 1, 0, none⟩) 2 2] 24))
  generalize (((v11.alloc (.cells #[.slice P2 X2.length c2, .slice Q2 Y2.length d2] 24)).alloc (.cells #[.float .f64 4619567317775286272, .float .f64 4613937818241073152] 50)).alloc (.cells #[.float .f64 4611686018427387904, .float .f64 0] 50)).alloc (.cells #[.slice (some ⟨v11.heap.size + 1, 0, none⟩) 2 2, .slice (some ⟨v11.heap.size + 1 + 1, 0, none⟩) 2 2] 24) = v14 at *
  have R15 := Ho.mk (litRow (X := [4619567317775286272, 4613937818241073152]) K3.out rfl (by decide) (n := 2) rfl (by decide))
  have R16 := Ho.mk (litRow (X := [4611686018427387904, 0]) K4.out rfl (by decide) (n := 2) rfl (by decide))
  obtain ⟨X3, Y3, hXY3⟩ : ∃ X Y, (X, Y) = invR [4619567317775286272, 4613937818241073152] [4611686018427387904, 0] := ⟨_, _, rfl⟩
  have TW17 := Ho.mk (two_lits (D := v11.heap.size) R15.out R16.out (by omega) (by omega) (by omega))
  have y18 := (BX5.out).cell (i := 0) rfl
  have y19 := (BX5.out).cell (i := 1) rfl
  have sz20 := g13.out.size
  go_wp2_with fail
  have C21 := Ho.mk (pInto (D := v11.heap.size) invInto invR_len (TT.out.bel ((((g1.out.trans b7H.out).trans g8.out).trans b12H.out).trans g13.out)) TW17.out (by decide) (by decide) sz20 hXY3 (z := 0) h3.2.symm)
  (with_reducible refine C21.out.mono ?_); rintro e v22 ⟨rfl, t3, b23⟩
  have T3 := Ho.mk t3
  clear C21 t3
  have fz := Ho.mk (frmBel b23 TW17.out g13.out (Nat.le_refl _))
  have BX5 := Ho.mk (frmVec b23 TW17.out BX5.out)
  clear b23
  have HXY3 := Ho.mk (hXY3.trans h3.1)
  clear hXY3
  clear y18 y19
  go_upto_region 6 with fail
  have K5 := Ho.mk (((Blk.new v22 [.float .f64 4607182418800017408, .float .f64 4611686018427387904] 50).old (.cells #[.float .f64 4613937818241073152] 50)).old (.cells #[.slice (some ⟨v22.heap.size, 0, none⟩) 2 2, .slice (some ⟨v22.heap.size + 1, 0, none⟩) 1 1] 24))
  have K6 := Ho.mk ((Blk.new (v22.alloc (.cells #[.float .f64 4607182418800017408, .float .f64 4611686018427387904] 50)) [.float .f64 4613937818241073152] 50).old (.cells #[.slice (some ⟨v22.heap.size, 0, none⟩) 2 2, .slice (some ⟨v22.heap.size + 1, 0, none⟩) 1 1] 24))
  simp only [World.size_alloc] at K6
  have BX7 := Ho.mk (Blk.new ((v22.alloc (.cells #[.float .f64 4607182418800017408, .float .f64 4611686018427387904] 50)).alloc (.cells #[.float .f64 4613937818241073152] 50)) [.slice (some ⟨v22.heap.size, 0, none⟩) 2 2, .slice (some ⟨v22.heap.size + 1, 0, none⟩) 1 1] 24)
  simp only [World.size_alloc] at BX7
  have g24 := Ho.mk ((((Bel.refl v22).alloc (.cells #[.float .f64 4607182418800017408, .float .f64 4611686018427387904] 50)).alloc (.cells #[.float .f64 4613937818241073152] 50)).alloc (.cells #[.slice (some ⟨v22.heap.size, 0, none⟩) 2 2, .slice (some ⟨v22.heap.size + 1, 0, none⟩) 1 1] 24))
  generalize ((v22.alloc (.cells #[.float .f64 4607182418800017408, .float .f64 4611686018427387904] 50)).alloc (.cells #[.float .f64 4613937818241073152] 50)).alloc (.cells #[.slice (some ⟨v22.heap.size, 0, none⟩) 2 2, .slice (some ⟨v22.heap.size + 1, 0, none⟩) 1 1] 24) = v25 at *
  have R26 := Ho.mk (litRow (X := [4607182418800017408, 4611686018427387904]) K5.out rfl (by decide) (n := 2) rfl (by decide))
  have R27 := Ho.mk (litRow (X := [4613937818241073152]) K6.out rfl (by decide) (n := 1) rfl (by decide))
  obtain ⟨U5, hU5⟩ : ∃ L, L = [4607182418800017408, 4611686018427387904] := ⟨_, rfl⟩
  rw [← hU5] at R26
  have HU5 := Ho.mk hU5
  clear hU5
  obtain ⟨U6, hU6⟩ : ∃ L, L = [4613937818241073152] := ⟨_, rfl⟩
  rw [← hU6] at R27
  have HU6 := Ho.mk hU6
  clear hU6
  have e1 := congrArg Prod.fst HXY1.out
  have f1 := congrArg Prod.snd HXY1.out
  have e3 := congrArg Prod.fst HXY3.out
  have f3 := congrArg Prod.snd HXY3.out
  dsimp only at e1 f1 e3 f3
  have E := Ho.mk (And.intro (And.intro e1 f1) (And.intro e3 f3))
  clear e1 f1 e3 f3
  have y28 := ((BX1.out.bel ((b12H.out.trans fz.out).trans g24.out))).cell (i := 0) rfl
  have y29 := ((BX1.out.bel ((b12H.out.trans fz.out).trans g24.out))).cell (i := 1) rfl
  go_wp2_with fail
  have Kaa := Ho.mk ((Blk.new v25 [.float .f64 4607182418800017408, .float .f64 4611686018427387904, .float .f64 4613937818241073152, .float .f64 4616189618054758400] 50).old (.cells #[.float .f64 0, .float .f64 0, .float .f64 0, .float .f64 4607182418800017408] 50))
  have Kab := Ho.mk (Blk.new (v25.alloc (.cells #[.float .f64 4607182418800017408, .float .f64 4611686018427387904, .float .f64 4613937818241073152, .float .f64 4616189618054758400] 50)) [.float .f64 0, .float .f64 0, .float .f64 0, .float .f64 4607182418800017408] 50)
  simp only [World.size_alloc] at Kab
  have g30 := Ho.mk (((Bel.refl v25).alloc (.cells #[.float .f64 4607182418800017408, .float .f64 4611686018427387904, .float .f64 4613937818241073152, .float .f64 4616189618054758400] 50)).alloc (.cells #[.float .f64 0, .float .f64 0, .float .f64 0, .float .f64 4607182418800017408] 50))
  generalize (v25.alloc (.cells #[.float .f64 4607182418800017408, .float .f64 4611686018427387904, .float .f64 4613937818241073152, .float .f64 4616189618054758400] 50)).alloc (.cells #[.float .f64 0, .float .f64 0, .float .f64 0, .float .f64 4607182418800017408] 50) = v31 at *
  have R32 := Ho.mk (litRow (X := [4607182418800017408, 4611686018427387904, 4613937818241073152, 4616189618054758400]) Kaa.out rfl (by decide) (n := 4) rfl (by decide))
  have R33 := Ho.mk (litRow (X := [0, 0, 0, 4607182418800017408]) Kab.out rfl (by decide) (n := 4) rfl (by decide))
  have C34 := Ho.mk (pSame (z := true) (inn ((T1.out.bel ((((g8.out.trans b12H.out).trans fz.out).trans g24.out).trans g30.out))).one (by rw [E.out.1.1]; decide)) (inn ((T1.out.bel ((((g8.out.trans b12H.out).trans fz.out).trans g24.out).trans g30.out))).two (by rw [E.out.1.2]; decide)) (inn R32.out (by decide)) (inn R33.out (by decide)) (by rw [E.out.1.1]; decide) (by rw [E.out.1.2]; decide) (by decide) (by decide) (by rw [E.out.1.1, E.out.1.2]; decide))
  (with_reducible refine C34.out.mono ?_); rintro e v35 ⟨rfl, b36⟩
  have b36H := Ho.mk b36
  clear C34 b36
  clear y28 y29
  have y37 := ((BX5.out.bel ((g24.out.trans g30.out).trans b36H.out))).cell (i := 0) rfl
  have y38 := ((BX5.out.bel ((g24.out.trans g30.out).trans b36H.out))).cell (i := 1) rfl
  go_wp2_with fail
  have Kba := Ho.mk ((Blk.new v35 [.float .f64 4617315517961601024, .float .f64 4611686018427387904] 50).old (.cells #[.float .f64 4607182418800017408, .float .f64 4607182418800017408] 50))
  have Kbb := Ho.mk (Blk.new (v35.alloc (.cells #[.float .f64 4617315517961601024, .float .f64 4611686018427387904] 50)) [.float .f64 4607182418800017408, .float .f64 4607182418800017408] 50)
  simp only [World.size_alloc] at Kbb
  have g39 := Ho.mk (((Bel.refl v35).alloc (.cells #[.float .f64 4617315517961601024, .float .f64 4611686018427387904] 50)).alloc (.cells #[.float .f64 4607182418800017408, .float .f64 4607182418800017408] 50))
  generalize (v35.alloc (.cells #[.float .f64 4617315517961601024, .float .f64 4611686018427387904] 50)).alloc (.cells #[.float .f64 4607182418800017408, .float .f64 4607182418800017408] 50) = v40 at *
  have R41 := Ho.mk (litRow (X := [4617315517961601024, 4611686018427387904]) Kba.out rfl (by decide) (n := 2) rfl (by decide))
  have R42 := Ho.mk (litRow (X := [4607182418800017408, 4607182418800017408]) Kbb.out rfl (by decide) (n := 2) rfl (by decide))
  have C43 := Ho.mk (pSame (z := true) (inn ((T3.out.bel (((g24.out.trans g30.out).trans b36H.out).trans g39.out))).one (by rw [E.out.2.1]; decide)) (inn ((T3.out.bel (((g24.out.trans g30.out).trans b36H.out).trans g39.out))).two (by rw [E.out.2.2]; decide)) (inn R41.out (by decide)) (inn R42.out (by decide)) (by rw [E.out.2.1]; decide) (by rw [E.out.2.2]; decide) (by decide) (by decide) (by rw [E.out.2.1, E.out.2.2]; decide))
  (with_reducible refine C43.out.mono ?_); rintro e v44 ⟨rfl, b45⟩
  have b45H := Ho.mk b45
  clear C43 b45
  clear y37 y38
  have y46 := ((BX7.out.bel (((g30.out.trans b36H.out).trans g39.out).trans b45H.out))).cell (i := 0) rfl
  have y47 := ((BX7.out.bel (((g30.out.trans b36H.out).trans g39.out).trans b45H.out))).cell (i := 1) rfl
  go_wp2_with fail
  obtain ⟨Z4, hZ4⟩ : ∃ Z, Z = U6.map fng := ⟨_, rfl⟩
  have C48 := Ho.mk (pConj (TT.out.bel (((((((((g1.out.trans b7H.out).trans g8.out).trans b12H.out).trans fz.out).trans g24.out).trans g30.out).trans b36H.out).trans g39.out).trans b45H.out)) (inn (R26.out.bel (((g30.out.trans b36H.out).trans g39.out).trans b45H.out)) (by rw [HU5.out]; decide)) (inn (R27.out.bel (((g30.out.trans b36H.out).trans g39.out).trans b45H.out)) (by rw [HU6.out]; decide)) (by rw [HU5.out]; decide) (by rw [HU6.out]; decide) hZ4)
  (with_reducible refine C48.out.mono ?_); rintro e v49 ⟨P4, c4, Q4, d4, rfl, t4, b50⟩
  have b50H := Ho.mk b50
  have T4 := Ho.mk t4
  clear C48 b50 t4
  have E4 : Ho (Z4 = [13837309855095848960]) := ⟨hZ4.trans (by rw [HU6.out]; exact h4)⟩
  clear hZ4
  go_wp2_with fail
  have Kc := Ho.mk ((Blk.new v49 [.float .f64 4607182418800017408, .float .f64 4611686018427387904] 50).old (.cells #[.float .f64 13837309855095848960] 50))
  have Kd := Ho.mk (Blk.new (v49.alloc (.cells #[.float .f64 4607182418800017408, .float .f64 4611686018427387904] 50)) [.float .f64 13837309855095848960] 50)
  simp only [World.size_alloc] at Kd
  have g51 := Ho.mk (((Bel.refl v49).alloc (.cells #[.float .f64 4607182418800017408, .float .f64 4611686018427387904] 50)).alloc (.cells #[.float .f64 13837309855095848960] 50))
  generalize (v49.alloc (.cells #[.float .f64 4607182418800017408, .float .f64 4611686018427387904] 50)).alloc (.cells #[.float .f64 13837309855095848960] 50) = v52 at *
  have R53 := Ho.mk (litRow (X := [4607182418800017408, 4611686018427387904]) Kc.out rfl (by decide) (n := 2) rfl (by decide))
  have R54 := Ho.mk (litRow (X := [13837309855095848960]) Kd.out rfl (by decide) (n := 1) rfl (by decide))
  have C55 := Ho.mk (pSame (z := true) (inn ((T4.out.bel g51.out)).one (by rw [HU5.out]; decide)) (inn ((T4.out.bel g51.out)).two (by rw [E4.out]; decide)) (inn R53.out (by decide)) (inn R54.out (by decide)) (by rw [HU5.out]; decide) (by rw [E4.out]; decide) (by decide) (by decide) (by rw [E4.out, HU5.out]; decide))
  (with_reducible refine C55.out.mono ?_); rintro e v56 ⟨rfl, b57⟩
  have b57H := Ho.mk b57
  clear C55 b57
  clear y46 y47
  have y58 := ((BX7.out.bel ((((((g30.out.trans b36H.out).trans g39.out).trans b45H.out).trans b50H.out).trans g51.out).trans b57H.out))).cell (i := 0) rfl
  have y59 := ((BX7.out.bel ((((((g30.out.trans b36H.out).trans g39.out).trans b45H.out).trans b50H.out).trans g51.out).trans b57H.out))).cell (i := 1) rfl
  go_wp2_with fail
  have C60 := Ho.mk (pSwap (inn (R26.out.bel ((((((g30.out.trans b36H.out).trans g39.out).trans b45H.out).trans b50H.out).trans g51.out).trans b57H.out)) (by rw [HU5.out]; decide)) (inn (R27.out.bel ((((((g30.out.trans b36H.out).trans g39.out).trans b45H.out).trans b50H.out).trans g51.out).trans b57H.out)) (by rw [HU6.out]; decide)) (by rw [HU5.out]; decide) (by rw [HU6.out]; decide))
  (with_reducible refine C60.out.mono ?_); rintro e v61 ⟨P5, c5, Q5, d5, rfl, t5, b62⟩
  have b62H := Ho.mk b62
  have T5 := Ho.mk t5
  clear C60 b62 t5
  go_wp2_with fail
  have Ke := Ho.mk ((Blk.new v61 [.float .f64 4613937818241073152] 50).old (.cells #[.float .f64 4607182418800017408, .float .f64 4611686018427387904] 50))
  have Kf := Ho.mk (Blk.new (v61.alloc (.cells #[.float .f64 4613937818241073152] 50)) [.float .f64 4607182418800017408, .float .f64 4611686018427387904] 50)
  simp only [World.size_alloc] at Kf
  have g63 := Ho.mk (((Bel.refl v61).alloc (.cells #[.float .f64 4613937818241073152] 50)).alloc (.cells #[.float .f64 4607182418800017408, .float .f64 4611686018427387904] 50))
  generalize (v61.alloc (.cells #[.float .f64 4613937818241073152] 50)).alloc (.cells #[.float .f64 4607182418800017408, .float .f64 4611686018427387904] 50) = v64 at *
  have R65 := Ho.mk (litRow (X := [4613937818241073152]) Ke.out rfl (by decide) (n := 1) rfl (by decide))
  have R66 := Ho.mk (litRow (X := [4607182418800017408, 4611686018427387904]) Kf.out rfl (by decide) (n := 2) rfl (by decide))
  have C67 := Ho.mk (pSame (z := true) (inn ((T5.out.bel g63.out)).one (by rw [HU6.out]; decide)) (inn ((T5.out.bel g63.out)).two (by rw [HU5.out]; decide)) (inn R65.out (by decide)) (inn R66.out (by decide)) (by rw [HU6.out]; decide) (by rw [HU5.out]; decide) (by decide) (by decide) (by rw [HU5.out, HU6.out]; decide))
  (with_reducible refine C67.out.mono ?_); rintro e v68 ⟨rfl, b69⟩
  have b69H := Ho.mk b69
  clear C67 b69
  clear y58 y59
  go_wp2
  go_ret
  exact ⟨rfl, (((((((((((((((g1.out.trans b7H.out).trans g8.out).trans b12H.out).trans fz.out).trans g24.out).trans g30.out).trans b36H.out).trans g39.out).trans b45H.out).trans b50H.out).trans g51.out).trans b57H.out).trans b62H.out).trans g63.out).trans b69H.out)⟩
end Go.Proofs.YtnbdoidccacdnaaGreatDoor.La
namespace Go.Proofs.YtnbdoidccacdnaaGreatDoor.Lb
open Ieee Go Go.RowKit Go.Proofs Go.Proofs.YtnbdoidccacdnaaGreatDoor Ow Dt Gp I0 U0 W0 S4 S6 P0 M0 M1 M2 M3 P4 P5 P6 P8 Pa Pb W4 W5 W1 W2 Pc Pe Pg Ph Go.Proofs.YtnbdoidccacdnaaGreatDoor.Pi Pj Pk Lv La
attribute [local go_sem ↓] Go.wp_at_zero Go.wp_at_succ
set_option maxRecDepth 100000 in
set_option maxHeartbeats 16000000 in
theorem given13 {A B : Option Addr} {c d : Nat} {X Y : List Nat} (w : World) (T : Tab w) (hx : In w (.slice A X.length c) X) (hy : In w (.slice B Y.length d) Y) :
    Calls Tryz.prog 5 #[.agg #[.slice A X.length c, .slice B Y.length d]] w (fun e w' => e = .returned (.bool true) ∧ Bel w w') := by
  have TT := Ho.mk T
  have HX := Ho.mk hx
  have HY := Ho.mk hy
  clear T hx hy
  by_cases hs : X.length ≤ 64 ∧ Y.length ≤ 64
  · go_enter Tryz.func5, Tryz.ntmps5
    obtain ⟨hs1, hs2⟩ := hs
    have HS := Ho.mk (And.intro hs1 hs2)
    go_wp2_with fail
    have BV := Ho.mk (Blk.new w [.slice A X.length c, .slice B Y.length d] 24)
    have g1 := Ho.mk ((Bel.refl w).alloc (.cells #[.slice A X.length c, .slice B Y.length d] 24))
    generalize w.alloc (.cells #[.slice A X.length c, .slice B Y.length d] 24) = v2 at *
    have C3 := Ho.mk (head13 v2 (TT.out.bel g1.out))
    (with_reducible refine C3.out.mono ?_); rintro e v4 ⟨rfl, b5⟩
    have b5H := Ho.mk b5
    clear C3 b5
    have y6 := ((BV.out.bel b5H.out)).cell (i := 0) rfl
    have y7 := ((BV.out.bel b5H.out)).cell (i := 1) rfl
    go_wp2_with fail
    have sm : decide (X.length ≤ 64 ∧ Y.length ≤ 64) = true := decide_eq_true HS.out
    have C8 := Ho.mk ((by have h := dSmall (n := X.length) (m := Y.length) (A := A) (B := B) (c := c) (c' := d) v4; rw [sm] at h; exact h : Calls Tryz.prog 16 #[.agg #[.slice A X.length c, .slice B Y.length d]] v4 (fun e w' => e = .returned (.bool true) ∧ Bel v4 w')))
    (with_reducible refine C8.out.mono ?_); rintro e v9 ⟨rfl, b10⟩
    have b10H := Ho.mk b10
    clear C8 b10
    clear y6 y7 sm
    have y11 := ((BV.out.bel (b5H.out.trans b10H.out))).cell (i := 0) rfl
    have y12 := ((BV.out.bel (b5H.out.trans b10H.out))).cell (i := 1) rfl
    go_wp2_with fail
    have C13 := Ho.mk (pOwn ((HX.out.bel ((g1.out.trans b5H.out).trans b10H.out))) ((HY.out.bel ((g1.out.trans b5H.out).trans b10H.out))) (by omega) (by omega))
    (with_reducible refine C13.out.mono ?_); rintro e v14 ⟨P1, c1, Q1, d1, rfl, t1, b15⟩
    have b15H := Ho.mk b15
    have T1 := Ho.mk t1
    clear C13 b15 t1
    clear y11 y12
    go_upto_region 5 with fail
    have B4 := Ho.mk (Blk.new v14 [.slice P1 X.length c1, .slice Q1 Y.length d1] 24)
    have g16 := Ho.mk ((Bel.refl v14).alloc (.cells #[.slice P1 X.length c1, .slice Q1 Y.length d1] 24))
    generalize v14.alloc (.cells #[.slice P1 X.length c1, .slice Q1 Y.length d1] 24) = v17 at *
    have y18 := ((BV.out.bel (((b5H.out.trans b10H.out).trans b15H.out).trans g16.out))).cell (i := 0) rfl
    have y19 := ((BV.out.bel (((b5H.out.trans b10H.out).trans b15H.out).trans g16.out))).cell (i := 1) rfl
    go_wp2_with fail
    obtain ⟨X2, Y2, hXY2⟩ : ∃ X2 Y2, (X2, Y2) = ifR X Y := ⟨_, _, rfl⟩
    obtain ⟨z, hz⟩ : ∃ z, z = errR X Y := ⟨_, rfl⟩
    have C20 := Ho.mk (pIfft (TT.out.bel ((((g1.out.trans b5H.out).trans b10H.out).trans b15H.out).trans g16.out)) ((HX.out.bel ((((g1.out.trans b5H.out).trans b10H.out).trans b15H.out).trans g16.out))) ((HY.out.bel ((((g1.out.trans b5H.out).trans b10H.out).trans b15H.out).trans g16.out))) (by omega) (by omega) hXY2 hz)
    (with_reducible refine C20.out.mono ?_); rintro e v21 ⟨P2, c2, Q2, d2, rfl, t2, b22⟩
    have b22H := Ho.mk b22
    have T2 := Ho.mk t2
    clear C20 b22 t2
    have HXY2 := Ho.mk hXY2
    have HZ := Ho.mk hz
    clear hXY2 hz
    clear y18 y19
    go_upto_region 6 with fail
    have B5 := Ho.mk (Blk.new v21 [.slice P2 X2.length c2, .slice Q2 Y2.length d2] 24)
    have g23 := Ho.mk ((Bel.refl v21).alloc (.cells #[.slice P2 X2.length c2, .slice Q2 Y2.length d2] 24))
    generalize v21.alloc (.cells #[.slice P2 X2.length c2, .slice Q2 Y2.length d2] 24) = v24 at *
    have y25 := ((BV.out.bel (((((b5H.out.trans b10H.out).trans b15H.out).trans g16.out).trans b22H.out).trans g23.out))).cell (i := 0) rfl
    have y26 := ((BV.out.bel (((((b5H.out.trans b10H.out).trans b15H.out).trans g16.out).trans b22H.out).trans g23.out))).cell (i := 1) rfl
    go_wp2_with fail
    obtain ⟨Y3, hY3⟩ : ∃ Y3, Y3 = Y.map fng := ⟨_, rfl⟩
    have C27 := Ho.mk (pConj (TT.out.bel ((((((g1.out.trans b5H.out).trans b10H.out).trans b15H.out).trans g16.out).trans b22H.out).trans g23.out)) ((HX.out.bel ((((((g1.out.trans b5H.out).trans b10H.out).trans b15H.out).trans g16.out).trans b22H.out).trans g23.out))) ((HY.out.bel ((((((g1.out.trans b5H.out).trans b10H.out).trans b15H.out).trans g16.out).trans b22H.out).trans g23.out))) (by omega) (by omega) hY3)
    (with_reducible refine C27.out.mono ?_); rintro e v28 ⟨P3, c3, Q3, d3, rfl, t3, b29⟩
    have b29H := Ho.mk b29
    have T3 := Ho.mk t3
    clear C27 b29 t3
    have lY3 : Y3.length = Y.length := by rw [hY3, List.length_map]
    have HY3 := Ho.mk hY3
    have LY3 := Ho.mk lY3
    clear hY3 lY3
    rw [LY3.out] at T3
    rw [LY3.out]
    clear y25 y26
    go_upto_region 7 with fail
    have B7 := Ho.mk (Blk.new v28 [.slice P3 X.length c3, .slice Q3 Y.length d3] 24)
    have g30 := Ho.mk ((Bel.refl v28).alloc (.cells #[.slice P3 X.length c3, .slice Q3 Y.length d3] 24))
    generalize v28.alloc (.cells #[.slice P3 X.length c3, .slice Q3 Y.length d3] 24) = v31 at *
    have y32 := ((BV.out.bel (((((((b5H.out.trans b10H.out).trans b15H.out).trans g16.out).trans b22H.out).trans g23.out).trans b29H.out).trans g30.out))).cell (i := 0) rfl
    have y33 := ((BV.out.bel (((((((b5H.out.trans b10H.out).trans b15H.out).trans g16.out).trans b22H.out).trans g23.out).trans b29H.out).trans g30.out))).cell (i := 1) rfl
    go_wp2_with fail
    have C34 := Ho.mk (pSwap ((HX.out.bel ((((((((g1.out.trans b5H.out).trans b10H.out).trans b15H.out).trans g16.out).trans b22H.out).trans g23.out).trans b29H.out).trans g30.out))) ((HY.out.bel ((((((((g1.out.trans b5H.out).trans b10H.out).trans b15H.out).trans g16.out).trans b22H.out).trans g23.out).trans b29H.out).trans g30.out))) (by omega) (by omega))
    (with_reducible refine C34.out.mono ?_); rintro e v35 ⟨P4, c4, Q4, d4, rfl, t4, b36⟩
    have b36H := Ho.mk b36
    have T4 := Ho.mk t4
    clear C34 b36 t4
    clear y32 y33
    go_upto_region 8 with fail
    have B8 := Ho.mk (Blk.new v35 [.slice P4 Y.length c4, .slice Q4 X.length d4] 24)
    have g37 := Ho.mk ((Bel.refl v35).alloc (.cells #[.slice P4 Y.length c4, .slice Q4 X.length d4] 24))
    generalize v35.alloc (.cells #[.slice P4 Y.length c4, .slice Q4 X.length d4] 24) = v38 at *
    have y39 := ((BV.out.bel (((((((((b5H.out.trans b10H.out).trans b15H.out).trans g16.out).trans b22H.out).trans g23.out).trans b29H.out).trans g30.out).trans b36H.out).trans g37.out))).cell (i := 0) rfl
    have y40 := ((BV.out.bel (((((((((b5H.out.trans b10H.out).trans b15H.out).trans g16.out).trans b22H.out).trans g23.out).trans b29H.out).trans g30.out).trans b36H.out).trans g37.out))).cell (i := 1) rfl
    have y41 := ((B4.out.bel (((((b22H.out.trans g23.out).trans b29H.out).trans g30.out).trans b36H.out).trans g37.out))).cell (i := 0) rfl
    have y42 := ((B4.out.bel (((((b22H.out.trans g23.out).trans b29H.out).trans g30.out).trans b36H.out).trans g37.out))).cell (i := 1) rfl
    have y43 := ((B7.out.bel (b36H.out.trans g37.out))).cell (i := 0) rfl
    have y44 := ((B7.out.bel (b36H.out.trans g37.out))).cell (i := 1) rfl
    have y45 := (B8.out).cell (i := 0) rfl
    have y46 := (B8.out).cell (i := 1) rfl
    refine wp_region_held_drew (S := fun w' => Bel v38 w') (by kernel_rfl) (Bel.refl _).drew (fun hHeld => ?_)
    (try dsimp only at hHeld)
    generalize v38.drew = wd at *
    refine rl (i := 0) (v := ?_) hHeld (fun w hSw => ?_) ?_
    rotate_left
    · (have z0 := hSw.cell y39; have z1 := hSw.cell y40; have z2 := hSw.cell y41; have z3 := hSw.cell y42; have z4 := hSw.cell y43; have z5 := hSw.cell y44; have z6 := hSw.cell y45; have z7 := hSw.cell y46; go_simp; try (with_reducible rfl))
    refine rl (i := 1) (v := ?_) hHeld (fun w hSw => ?_) ?_
    rotate_left
    · (have z0 := hSw.cell y39; have z1 := hSw.cell y40; have z2 := hSw.cell y41; have z3 := hSw.cell y42; have z4 := hSw.cell y43; have z5 := hSw.cell y44; have z6 := hSw.cell y45; have z7 := hSw.cell y46; go_simp; try (with_reducible rfl))
    try simp only [Act.put, List.setIfInBounds_toArray, List.set_cons_zero, List.set_cons_succ]
    refine rc (i := 2) (fun K hK => ?_)
    go_simp
    skip
    have CC := Ho.mk (pSame (z := true) (((HX.out.bel ((((((((((g1.out.trans b5H.out).trans b10H.out).trans b15H.out).trans g16.out).trans b22H.out).trans g23.out).trans b29H.out).trans g30.out).trans b36H.out).trans g37.out))).bel hHeld) (((HY.out.bel ((((((((((g1.out.trans b5H.out).trans b10H.out).trans b15H.out).trans g16.out).trans b22H.out).trans g23.out).trans b29H.out).trans g30.out).trans b36H.out).trans g37.out))).bel hHeld) (inn (Two.bel (T1.out.bel ((((((g16.out.trans b22H.out).trans g23.out).trans b29H.out).trans g30.out).trans b36H.out).trans g37.out)) hHeld).one (by omega)) (inn (Two.bel (T1.out.bel ((((((g16.out.trans b22H.out).trans g23.out).trans b29H.out).trans g30.out).trans b36H.out).trans g37.out)) hHeld).two (by omega)) (by omega) (by omega) (by omega) (by omega) (by simp))
    (with_reducible refine CC.out.mono ?_); rintro e v1 ⟨rfl, bv1⟩
    clear CC
    try go_wp2_with fail
    refine hK.out _ _ (Bel.trans hHeld bv1) (fun hHeld => ?_)
    clear hK K
    clear bv1
    refine rt (i := 3) hHeld ?_
    refine rt (i := 4) hHeld ?_
    refine rt (i := 5) hHeld ?_
    refine rl (i := 6) (v := ?_) hHeld (fun w hSw => ?_) ?_
    rotate_left
    · (have z0 := hSw.cell y39; have z1 := hSw.cell y40; have z2 := hSw.cell y41; have z3 := hSw.cell y42; have z4 := hSw.cell y43; have z5 := hSw.cell y44; have z6 := hSw.cell y45; have z7 := hSw.cell y46; go_simp; try (with_reducible rfl))
    refine rt (i := 7) hHeld ?_
    refine rt (i := 8) hHeld ?_
    refine rl (i := 9) (v := ?_) hHeld (fun w hSw => ?_) ?_
    rotate_left
    · (have z0 := hSw.cell y39; have z1 := hSw.cell y40; have z2 := hSw.cell y41; have z3 := hSw.cell y42; have z4 := hSw.cell y43; have z5 := hSw.cell y44; have z6 := hSw.cell y45; have z7 := hSw.cell y46; go_simp; try (with_reducible rfl))
    refine rt (i := 10) hHeld ?_
    refine rt (i := 11) hHeld ?_
    refine rt (i := 12) hHeld ?_
    refine rt (i := 13) hHeld ?_
    refine rt (i := 14) hHeld ?_
    refine rl (i := 15) (v := ?_) hHeld (fun w hSw => ?_) ?_
    rotate_left
    · (have z0 := hSw.cell y39; have z1 := hSw.cell y40; have z2 := hSw.cell y41; have z3 := hSw.cell y42; have z4 := hSw.cell y43; have z5 := hSw.cell y44; have z6 := hSw.cell y45; have z7 := hSw.cell y46; go_simp; try (with_reducible rfl))
    refine rt (i := 16) hHeld ?_
    refine rt (i := 17) hHeld ?_
    refine rl (i := 18) (v := ?_) hHeld (fun w hSw => ?_) ?_
    rotate_left
    · (have z0 := hSw.cell y39; have z1 := hSw.cell y40; have z2 := hSw.cell y41; have z3 := hSw.cell y42; have z4 := hSw.cell y43; have z5 := hSw.cell y44; have z6 := hSw.cell y45; have z7 := hSw.cell y46; go_simp; try (with_reducible rfl))
    refine rt (i := 19) hHeld ?_
    refine rt (i := 20) hHeld ?_
    refine rt (i := 21) hHeld ?_
    refine rt (i := 22) hHeld ?_
    refine rl (i := 23) (v := ?_) hHeld (fun w hSw => ?_) ?_
    rotate_left
    · (have z0 := hSw.cell y39; have z1 := hSw.cell y40; have z2 := hSw.cell y41; have z3 := hSw.cell y42; have z4 := hSw.cell y43; have z5 := hSw.cell y44; have z6 := hSw.cell y45; have z7 := hSw.cell y46; go_simp; try (with_reducible rfl))
    refine rl (i := 25) (v := ?_) hHeld (fun w hSw => ?_) ?_
    rotate_left
    · (have z0 := hSw.cell y39; have z1 := hSw.cell y40; have z2 := hSw.cell y41; have z3 := hSw.cell y42; have z4 := hSw.cell y43; have z5 := hSw.cell y44; have z6 := hSw.cell y45; have z7 := hSw.cell y46; go_simp; try (with_reducible rfl))
    try simp only [Act.put, List.setIfInBounds_toArray, List.set_cons_zero, List.set_cons_succ]
    refine rc (i := 24) (fun K hK => ?_)
    go_simp
    skip
    have CC := Ho.mk (pSwap (inn (Two.bel (T4.out.bel g37.out) hHeld).one (by omega)) (inn (Two.bel (T4.out.bel g37.out) hHeld).two (by omega)) (by omega) (by omega))
    (with_reducible refine CC.out.mono ?_); rintro e v2 ⟨P6, c6, Q6, d6, rfl, t6, bv2⟩
    clear CC
    try go_wp2_with fail
    refine hK.out _ _ (Bel.trans hHeld bv2) (fun hHeld => ?_)
    clear hK K
    clear bv2
    try simp only [Act.put, List.setIfInBounds_toArray, List.set_cons_zero, List.set_cons_succ]
    refine rc (i := 26) (fun K hK => ?_)
    go_simp
    skip
    have CC := Ho.mk (pSame (z := true) (inn t6.one (by omega)) (inn t6.two (by omega)) (((HX.out.bel ((((((((((g1.out.trans b5H.out).trans b10H.out).trans b15H.out).trans g16.out).trans b22H.out).trans g23.out).trans b29H.out).trans g30.out).trans b36H.out).trans g37.out))).bel hHeld) (((HY.out.bel ((((((((((g1.out.trans b5H.out).trans b10H.out).trans b15H.out).trans g16.out).trans b22H.out).trans g23.out).trans b29H.out).trans g30.out).trans b36H.out).trans g37.out))).bel hHeld) (by omega) (by omega) (by omega) (by omega) (by simp))
    (with_reducible refine CC.out.mono ?_); rintro e v3 ⟨rfl, bv3⟩
    clear CC
    try go_wp2_with fail
    refine hK.out _ _ (Bel.trans hHeld bv3) (fun hHeld => ?_)
    clear hK K
    clear bv3
    refine rt (i := 27) hHeld ?_
    refine rt (i := 28) hHeld ?_
    refine rt (i := 29) hHeld ?_
    refine rl (i := 30) (v := ?_) hHeld (fun w hSw => ?_) ?_
    rotate_left
    · (have z0 := hSw.cell y39; have z1 := hSw.cell y40; have z2 := hSw.cell y41; have z3 := hSw.cell y42; have z4 := hSw.cell y43; have z5 := hSw.cell y44; have z6 := hSw.cell y45; have z7 := hSw.cell y46; go_simp; try (with_reducible rfl))
    refine rl (i := 32) (v := ?_) hHeld (fun w hSw => ?_) ?_
    rotate_left
    · (have z0 := hSw.cell y39; have z1 := hSw.cell y40; have z2 := hSw.cell y41; have z3 := hSw.cell y42; have z4 := hSw.cell y43; have z5 := hSw.cell y44; have z6 := hSw.cell y45; have z7 := hSw.cell y46; go_simp; try (with_reducible rfl))
    try simp only [Act.put, List.setIfInBounds_toArray, List.set_cons_zero, List.set_cons_succ]
    refine rc (i := 31) (fun K hK => ?_)
    go_simp
    skip
    have CC := Ho.mk (pConj (TT.out.bel (((((((((((g1.out.trans b5H.out).trans b10H.out).trans b15H.out).trans g16.out).trans b22H.out).trans g23.out).trans b29H.out).trans g30.out).trans b36H.out).trans g37.out).trans hHeld)) (inn (Two.bel (T3.out.bel ((g30.out.trans b36H.out).trans g37.out)) hHeld).one (by omega)) (inn (Two.bel (T3.out.bel ((g30.out.trans b36H.out).trans g37.out)) hHeld).two (by rw [LY3.out]; omega)) (by omega) (by rw [LY3.out]; omega) (Y' := Y) (by rw [HY3.out]; exact (fng_row (In.cl HY.out)).symm))
    (with_reducible refine CC.out.mono ?_); rintro e v4 ⟨P7, c7, Q7, d7, rfl, t7, bv4⟩
    clear CC
    try go_wp2_with fail
    refine hK.out _ _ (Bel.trans hHeld bv4) (fun hHeld => ?_)
    clear hK K
    clear bv4
    try simp only [Act.put, List.setIfInBounds_toArray, List.set_cons_zero, List.set_cons_succ]
    refine rc (i := 33) (fun K hK => ?_)
    go_simp
    skip
    have CC := Ho.mk (pSame (z := true) (inn t7.one (by omega)) (inn t7.two (by omega)) (((HX.out.bel ((((((((((g1.out.trans b5H.out).trans b10H.out).trans b15H.out).trans g16.out).trans b22H.out).trans g23.out).trans b29H.out).trans g30.out).trans b36H.out).trans g37.out))).bel hHeld) (((HY.out.bel ((((((((((g1.out.trans b5H.out).trans b10H.out).trans b15H.out).trans g16.out).trans b22H.out).trans g23.out).trans b29H.out).trans g30.out).trans b36H.out).trans g37.out))).bel hHeld) (by omega) (by omega) (by omega) (by omega) (by simp))
    (with_reducible refine CC.out.mono ?_); rintro e v5 ⟨rfl, bv5⟩
    clear CC
    try go_wp2_with fail
    refine hK.out _ _ (Bel.trans hHeld bv5) (fun hHeld => ?_)
    clear hK K
    clear bv5
    refine rt (i := 34) hHeld ?_
    refine rt (i := 35) hHeld ?_
    try simp only [Act.put, List.setIfInBounds_toArray, List.set_cons_zero, List.set_cons_succ]
    refine wpAnyH_done (by kernel_rfl) ?_ _
    have g8H := Ho.mk hHeld
    clear hHeld y39 y40 y41 y42 y43 y44 y45 y46
    have y47 := ((BV.out.bel ((((((((((b5H.out.trans b10H.out).trans b15H.out).trans g16.out).trans b22H.out).trans g23.out).trans b29H.out).trans g30.out).trans b36H.out).trans g37.out).trans g8H.out))).cell (i := 0) rfl
    have y48 := ((BV.out.bel ((((((((((b5H.out.trans b10H.out).trans b15H.out).trans g16.out).trans b22H.out).trans g23.out).trans b29H.out).trans g30.out).trans b36H.out).trans g37.out).trans g8H.out))).cell (i := 1) rfl
    go_wp2_with fail
    have C49 := Ho.mk (pOwn ((HX.out.bel (((((((((((g1.out.trans b5H.out).trans b10H.out).trans b15H.out).trans g16.out).trans b22H.out).trans g23.out).trans b29H.out).trans g30.out).trans b36H.out).trans g37.out).trans g8H.out))) ((HY.out.bel (((((((((((g1.out.trans b5H.out).trans b10H.out).trans b15H.out).trans g16.out).trans b22H.out).trans g23.out).trans b29H.out).trans g30.out).trans b36H.out).trans g37.out).trans g8H.out))) (by omega) (by omega))
    (with_reducible refine C49.out.mono ?_); rintro e v50 ⟨P5, c5, Q5, d5, rfl, t5, b51⟩
    have b51H := Ho.mk b51
    have T5 := Ho.mk t5
    clear C49 b51 t5
    clear y47 y48
    go_upto_region 11 with fail
    have B9 := Ho.mk (Blk.new v50 [.slice P5 X.length c5, .slice Q5 Y.length d5] 24)
    have g52 := Ho.mk ((Bel.refl v50).alloc (.cells #[.slice P5 X.length c5, .slice Q5 Y.length d5] 24))
    generalize v50.alloc (.cells #[.slice P5 X.length c5, .slice Q5 Y.length d5] 24) = v53 at *
    have y54 := (B9.out).cell (i := 0) rfl
    have y55 := (B9.out).cell (i := 1) rfl
    go_wp2_with fail
    obtain ⟨X6, Y6, hXY6⟩ : ∃ X6 Y6, (X6, Y6) = invR X Y := ⟨_, _, rfl⟩
    have C56 := Ho.mk (pInto (D := v5.heap.size) invInto invR_len (TT.out.bel (((((((((((((g1.out.trans b5H.out).trans b10H.out).trans b15H.out).trans g16.out).trans b22H.out).trans g23.out).trans b29H.out).trans g30.out).trans b36H.out).trans g37.out).trans g8H.out).trans b51H.out).trans g52.out)) (T5.out.bel g52.out) (by omega) (by omega) (b51H.out.trans g52.out).size hXY6 HZ.out)
    (with_reducible refine C56.out.mono ?_); rintro e v57 ⟨rfl, t6, b58⟩
    have T6 := Ho.mk t6
    clear C56 t6
    have fz := Ho.mk (frmBel b58 (T5.out.bel g52.out) (b51H.out.trans g52.out) (Nat.le_refl _))
    have B9 := Ho.mk (frmVec b58 (T5.out.bel g52.out) B9.out)
    clear b58
    have HXY6 := Ho.mk hXY6
    clear hXY6
    clear y54 y55
    have LL6 := Ho.mk (invR_len X Y)
    rw [← HXY6.out] at LL6
    have y59 := (B9.out).cell (i := 0) rfl
    have y60 := (B9.out).cell (i := 1) rfl
    have y61 := ((B5.out.bel (((((b29H.out.trans g30.out).trans b36H.out).trans g37.out).trans g8H.out).trans fz.out))).cell (i := 0) rfl
    have y62 := ((B5.out.bel (((((b29H.out.trans g30.out).trans b36H.out).trans g37.out).trans g8H.out).trans fz.out))).cell (i := 1) rfl
    have y63 := ((B4.out.bel (((((((b22H.out.trans g23.out).trans b29H.out).trans g30.out).trans b36H.out).trans g37.out).trans g8H.out).trans fz.out))).cell (i := 0) rfl
    have y64 := ((B4.out.bel (((((((b22H.out.trans g23.out).trans b29H.out).trans g30.out).trans b36H.out).trans g37.out).trans g8H.out).trans fz.out))).cell (i := 1) rfl
    cases hok : okP X.length Y.length with
    | true =>
      have ez : z = 0 := by rw [HZ.out]; unfold errR; rw [hok]; rfl
      subst ez
      have e2 : (X2, Y2) = (X6, Y6) := by rw [HXY2.out, HXY6.out]; unfold ifR; rw [hok]; rfl
      simp only [Prod.mk.injEq] at e2
      obtain ⟨rfl, rfl⟩ := e2
      have LX := Ho.mk (And.intro LL6.out.1 LL6.out.2)
      clear hok
      go_wp2_with fail
      have C1q := Ho.mk (pSame (z := true) (inn (T6.out).one (by rw [LL6.out.1]; omega)) (inn (T6.out).two (by rw [LL6.out.2]; omega)) (inn ((T2.out.bel ((((((g23.out.trans b29H.out).trans g30.out).trans b36H.out).trans g37.out).trans g8H.out).trans fz.out))).one (by rw [LL6.out.1]; omega)) (inn ((T2.out.bel ((((((g23.out.trans b29H.out).trans g30.out).trans b36H.out).trans g37.out).trans g8H.out).trans fz.out))).two (by rw [LL6.out.2]; omega)) (by rw [LL6.out.1]; omega) (by rw [LL6.out.2]; omega) (by rw [LL6.out.1]; omega) (by rw [LL6.out.2]; omega) (by simp))
      (with_reducible refine C1q.out.mono ?_); rintro e v2q ⟨rfl, b3q⟩
      have b3qH := Ho.mk b3q
      clear C1q b3q
      go_wp2
      go_ret
      exact ⟨rfl, (((((((((((((g1.out.trans b5H.out).trans b10H.out).trans b15H.out).trans g16.out).trans b22H.out).trans g23.out).trans b29H.out).trans g30.out).trans b36H.out).trans g37.out).trans g8H.out).trans fz.out).trans b3qH.out)⟩
    | false =>
      have ez : z = 2 := by rw [HZ.out]; unfold errR; rw [hok]; rfl
      subst ez
      have e2 : (X2, Y2) = ([], []) := by rw [HXY2.out]; unfold ifR; rw [hok]; rfl
      simp only [Prod.mk.injEq] at e2
      obtain ⟨rfl, rfl⟩ := e2
      have e6 : (X6, Y6) = (X, Y) := by rw [HXY6.out]; unfold invR; rw [hok]; rfl
      simp only [Prod.mk.injEq] at e6
      obtain ⟨rfl, rfl⟩ := e6
      clear hok
      go_wp2_with fail
      have C1p := Ho.mk (pSame (z := true) (inn (T6.out).one (by omega)) (inn (T6.out).two (by omega)) (inn ((T1.out.bel ((((((((g16.out.trans b22H.out).trans g23.out).trans b29H.out).trans g30.out).trans b36H.out).trans g37.out).trans g8H.out).trans fz.out))).one (by omega)) (inn ((T1.out.bel ((((((((g16.out.trans b22H.out).trans g23.out).trans b29H.out).trans g30.out).trans b36H.out).trans g37.out).trans g8H.out).trans fz.out))).two (by omega)) (by omega) (by omega) (by omega) (by omega) (by simp))
      (with_reducible refine C1p.out.mono ?_); rintro e v2p ⟨rfl, b3p⟩
      have b3pH := Ho.mk b3p
      clear C1p b3p
      have y4p := ((B5.out.bel ((((((b29H.out.trans g30.out).trans b36H.out).trans g37.out).trans g8H.out).trans fz.out).trans b3pH.out))).cell (i := 0) rfl
      have y5p := ((B5.out.bel ((((((b29H.out.trans g30.out).trans b36H.out).trans g37.out).trans g8H.out).trans fz.out).trans b3pH.out))).cell (i := 1) rfl
      go_wp2
      go_ret
      exact ⟨rfl, (((((((((((((g1.out.trans b5H.out).trans b10H.out).trans b15H.out).trans g16.out).trans b22H.out).trans g23.out).trans b29H.out).trans g30.out).trans b36H.out).trans g37.out).trans g8H.out).trans fz.out).trans b3pH.out)⟩
  · have sm : decide (X.length ≤ 64 ∧ Y.length ≤ 64) = false := decide_eq_false hs
    have SM := Ho.mk sm
    clear sm hs
    go_enter Tryz.func5, Tryz.ntmps5
    go_wp2_with fail
    have BV := Ho.mk (Blk.new w [.slice A X.length c, .slice B Y.length d] 24)
    have g1 := Ho.mk ((Bel.refl w).alloc (.cells #[.slice A X.length c, .slice B Y.length d] 24))
    generalize w.alloc (.cells #[.slice A X.length c, .slice B Y.length d] 24) = v2 at *
    have C3 := Ho.mk (head13 v2 (TT.out.bel g1.out))
    (with_reducible refine C3.out.mono ?_); rintro e v4 ⟨rfl, b5⟩
    have b5H := Ho.mk b5
    clear C3 b5
    have y6 := ((BV.out.bel b5H.out)).cell (i := 0) rfl
    have y7 := ((BV.out.bel b5H.out)).cell (i := 1) rfl
    go_wp2_with fail
    have C8 := Ho.mk ((by have h := dSmall (n := X.length) (m := Y.length) (A := A) (B := B) (c := c) (c' := d) v4; rw [SM.out] at h; exact h : Calls Tryz.prog 16 #[.agg #[.slice A X.length c, .slice B Y.length d]] v4 (fun e w' => e = .returned (.bool false) ∧ Bel v4 w')))
    (with_reducible refine C8.out.mono ?_); rintro e v9 ⟨rfl, b10⟩
    have b10H := Ho.mk b10
    clear C8 b10
    go_wp2
    go_ret
    exact ⟨rfl, ((g1.out.trans b5H.out).trans b10H.out)⟩
theorem given13_door (A : Option Addr) (c : Nat) (X : List Nat) (B : Option Addr) (d : Nat) (Y : List Nat) (w : World) (T : Tab w) (hx : In w (.slice A X.length c) X) (hy : In w (.slice B Y.length d) Y) :
    Calls Tryz.prog 5 #[.agg #[.slice A X.length c, .slice B Y.length d]] w (fun e w' => e = .returned (.bool true) ∧ Bel w w') := given13 w T hx hy
end Go.Proofs.YtnbdoidccacdnaaGreatDoor.Lb
namespace Go.Proofs.YtnbdoidccacdnaaGreatDoor.Pf
open Go Go.ChangeShapes Go.WideShapes Go.ChangeAt Go.RowKit Go.Proofs.YtnbdoidccacdnaaGreatDoor Ow Dt Gp W0 W4 W5 Pg Pd
section
variable {H : Type} {enc : TypeId × Value → H} {P : Program} {w : World} {base : Nat} {spare : Nat → Bool} {held : Bool} {fuel m : Nat} {t : TypeId} {cs : List Value} {x : DataW H × List MemPlace}
theorem trod_float {k : FloatKind} (ht : P.underlying t = some (.float k)) (h : DataW.trod enc P w base spare held fuel t cs = some x) : ∃ n, cs = [.float k n] ∧ x = (.lit (.float k n), []) ∧ (Lit.float k n).wf = true := by
  cases fuel with
  | zero => simp [DataW.trod] at h
  | succ n =>
    unfold DataW.trod at h
    rw [ht] at h
    split at h <;> simp_all
end
theorem wf_lt {b : Nat} (h : (Lit.float .f64 b).wf = true) : b < 2 * sgnW := by
  have : b < 2 ^ 64 := by simpa [Lit.wf] using h
  exact this
theorem cV : Tryz.prog.cellsOf 24 = 2 := by kernel_rfl
theorem cF : Tryz.prog.cellsOf 50 = 1 := by kernel_rfl
theorem cS : Tryz.prog.cellsOf 22 = 1 := by kernel_rfl
theorem bytesF : Tryz.prog.bytesOf 50 = 8 := by kernel_rfl
def clsOf (V : Nat → Value) (n : Nat) : List Nat := (List.range n).map fun i => match V i with
  | .float _ b => cn b
  | _ => 0
set_option maxRecDepth 100000 in
theorem open_row {H : Type} {enc : TypeId × Value → H} {W : World} {fuel : Nat} {cs : List Value} {x : DataW H × List MemPlace} (h : DataW.trod enc Tryz.prog W 0 (fun _ => true) true fuel 22 cs = some x)
    (hsz : ∀ n ∈ x.1.weights Tryz.prog 22, n ≤ reachBytes) : ∃ A c X, cs = [.slice A X.length c] ∧ In W (.slice A X.length c) X ∧ X.length ≤ 17592186043904 := by
  rcases Deep.open_slice1 Tryz.underlying22 cF h with ⟨h1, _⟩ | ⟨a, len, cap, m, n, V, D, Pl, rfl, _, hle, hmax, hm, hx, hV⟩
  · exact ⟨none, 0, [], h1, ⟨none, 0, rfl, Nat.le_refl _, by decide, Fr.nil _ _, fun _ => rfl⟩, by simp⟩
  · rw [if_pos rfl] at hm
    have hq : cap * 8 ≤ reachBytes := by
      refine hsz (cap * 8) ?_
      rw [congrArg Prod.fst hx]
      simp only [DataW.weights, Tryz.underlying22, bytesF, List.length_map, List.length_range, List.mem_cons]
      left; rw [hm, Nat.add_sub_cancel' hle]
    have hr : cap ≤ 17592186043904 := by
      have e8 : cap * 8 ≤ 17592186043904 * 8 := Nat.le_trans hq (by decide)
      exact Nat.le_of_mul_le_mul_right e8 (by decide)
    have hlen : (clsOf V len).length = len := by simp [clsOf]
    refine ⟨some a, cap, clsOf V len, by rw [hlen], ⟨some a, cap, by rw [hlen], by rw [hlen]; exact hle, hmax, ⟨by rw [hlen]; omega, fun j hj => ?_⟩, fun e => by cases e⟩, by rw [hlen]; omega⟩
    rw [hlen] at hj
    obtain ⟨k1, k2⟩ := hV j (by omega)
    obtain ⟨b, e, _, hw⟩ := trod_float Tryz.underlying50 k2
    simp only [List.cons.injEq, and_true] at e
    refine ⟨a, V j, rfl, k1, b, e, wf_lt hw, ?_⟩
    rw [nthN_lt (by rw [hlen]; exact hj)]
    simp [clsOf, e]
set_option maxRecDepth 100000 in
theorem open_vec {H : Type} {enc : TypeId × Value → H} {W : World} {base : Nat} {v : Value} {d : DataW H} {p : List MemPlace} (hval : Value.okWide Tryz.prog W .any base 24 v) (hd : DataW.Trod enc Tryz.prog W 0 (fun _ => true) true 24 v d p)
    (hsz : ∀ n ∈ d.weights Tryz.prog 24, n ≤ reachBytes) :
    ∃ A c X B d Y, v = .agg #[.slice A X.length c, .slice B Y.length d] ∧ In W (.slice A X.length c) X ∧ In W (.slice B Y.length d) Y := by
  obtain ⟨cs, rfl, hcs⟩ := okWide_struct Tryz.underlying24 hval
  rw [cV] at hcs
  obtain ⟨fuel, hf⟩ := hd
  obtain ⟨y0, y1, n, hx, hl, t0, t1⟩ := trod_struct2 Tryz.underlying24 hf
  obtain ⟨l⟩ := cs
  match l, hcs with
  | [x0, x1], _ =>
    simp only [cS, Value.cells] at t0 t1
    simp only [List.drop_zero, List.take_succ_cons, List.take_zero, List.drop_succ_cons] at t0 t1
    have hy : d = DataW.agg [y0.1, y1.1] := congrArg Prod.fst hx
    have hy0 : ∀ n ∈ y0.1.weights Tryz.prog 22, n ≤ reachBytes := fun n hn => hsz n (by
      rw [hy]
      simp only [DataW.weights, Tryz.underlying24, List.map_cons, List.map_nil, DataW.weightsEach, List.mem_append]
      exact .inl hn)
    have hy1 : ∀ n ∈ y1.1.weights Tryz.prog 22, n ≤ reachBytes := fun n hn => hsz n (by
      rw [hy]
      simp only [DataW.weights, Tryz.underlying24, List.map_cons, List.map_nil, DataW.weightsEach, List.mem_append]
      exact .inr (.inl hn))
    obtain ⟨A, c, X, e0, i0, _⟩ := open_row t0 hy0
    obtain ⟨B, d, Y, e1, i1, _⟩ := open_row t1 hy1
    simp only [List.cons.injEq, and_true] at e0 e1
    subst e0; subst e1
    exact ⟨A, c, X, B, d, Y, rfl, i0, i1⟩
end Go.Proofs.YtnbdoidccacdnaaGreatDoor.Pf
