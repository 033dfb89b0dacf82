/-
  Joined, of what this claim leans on: Lo.
-/
import Derived.Test.YtalbgklfhabnkaaGreatDoorJDctoneGiven1
set_option linter.unusedVariables false
set_option linter.unusedSimpArgs false
set_option maxRecDepth 100000
set_option maxHeartbeats 16000000
namespace Go.Proofs.YtalbgklfhabnkaaGreatDoor
namespace Lo
open Ieee Go Go.RowKit Go.Proofs Go.Proofs.YtalbgklfhabnkaaGreatDoor Ow Dt Gp I0 U0 W0 S4 S6 P0 M0 M1 M3 W4 W5 V2 P4 Y3 Yh Y1 P8 Pc Y5 Y6 Y7 Pk Lv Pj Le Lg Z4 Kc Ln
open Go.Proofs.YtalbgklfhabnkaaGreatDoor.Kf (d1R d1E pS okS_c okS_s Part MakesPE dDct1 dDst1)
open Go.Proofs.YtalbgklfhabnkaaGreatDoor.S4 (infoF)
open Go.Proofs.YtalbgklfhabnkaaGreatDoor.W1 (Nm)
open Go.Proofs.YtalbgklfhabnkaaGreatDoor.W2 (P2)
open Go.Proofs.YtalbgklfhabnkaaGreatDoor.V1 (NI St ni_same ni_loop St.refl St.of_bel blk_keep ni_blk put_st)
open Go.Proofs.YtalbgklfhabnkaaGreatDoor.C6 (leaveAny)
open Go.Proofs.YtalbgklfhabnkaaGreatDoor.Pg (In)
attribute [local go_sem ↓] Go.wp_at_zero Go.wp_at_succ
abbrev okC (n : Nat) : Bool := okS false n
abbrev okD (n : Nat) : Bool := okS true n
theorem given18L {A : Option Addr} {c n : Nat} {X : List Nat} (w : World) (T : Tab w) (hx : In w (.slice A n c) X) (hX : X.length = n) (hl : 64 < n) : Calls Tryz.prog 8 #[.slice A n c] w (fun e w' => e = .returned (.bool true) ∧ Bel w w') := by
 have TT := Ho.mk T
 have hl2 : (64 : Int) < (n : Int) := by omega
 clear T hx hX
 go_enter Tryz.func8, Tryz.ntmps8
 go_wp2_with fail
 have C1 := Ho.mk (head18 w (TT.out.bel (Bel.refl _)))
 (with_reducible refine C1.out.mono ?_); rintro e v2 ⟨rfl, b3⟩
 have b3H := Ho.mk b3
 clear C1 b3
 go_wp2
 go_ret
 exact ⟨rfl, b3H.out⟩
theorem given18N {A : Option Addr} {c n : Nat} {X : List Nat} (w : World) (T : Tab w) (hx : In w (.slice A n c) X) (hX : X.length = n) (hl : n ≤ 64) (hok0 : okC n = false) (hok1 : okD n = false) : Calls Tryz.prog 8 #[.slice A n c] w (fun e w' => e = .returned (.bool true) ∧ Bel w w') := by
 have TT := Ho.mk T
 have HX := Ho.mk hx
 have HXL := Ho.mk hX
 rw [← hX] at hok0 hok1
 have E0 := Ho.mk (show [] = d1R false X ∧ 2 = d1E false X from ⟨(d1_no (s := false) hok0).1.symm, (d1_no (s := false) hok0).2.symm⟩)
 have E1 := Ho.mk (show [] = d1R true X ∧ 2 = d1E true X from ⟨(d1_no (s := true) hok1).1.symm, (d1_no (s := true) hok1).2.symm⟩)
 have hl2 : ¬ (64 : Int) < (n : Int) := by omega
 clear T hx hX hok0 hok1
 go_enter Tryz.func8, Tryz.ntmps8
 go_wp2_with fail
 have C1 := Ho.mk (head18 w (TT.out.bel (Bel.refl _)))
 (with_reducible refine C1.out.mono ?_); rintro e v2 ⟨rfl, b3⟩
 have b3H := Ho.mk b3
 clear C1 b3
 have hsz : v2.heap.size = v2.heap.size := rfl
 have K0 := Blk.new v2 [] 22
 have B0 := (Bel.refl v2).alloc (.cells #[] 22)
 have I0 := (HX.out.bel b3H.out).bel B0
 go_upto_region 5 with (at_builtin; refine wpList_own rfl _ _ rfl rfl K0 rfl I0 (by have := HXL.out; omega) HXL.out ?_; intro A4 c4 w3 r4 G4; have R4 := Ho.mk r4; have GG := Ho.mk G4; clear r4 G4 K0 I0)
 have sB := b3H.out.size
 have BB := Ho.mk (GG.out.bel (b3H.out.trans B0) sB)
 clear B0 sB hsz
 go_wp2_with fail
 have C4 := Ho.mk (dDct1 (TT.out.bel BB.out) (HX.out.bel BB.out) (by have := HXL.out; omega) E0.out.1 E0.out.2)
 (with_reducible refine C4.out.mono ?_); rintro e v5 ⟨Q0, c0, rfl, t0, _, b6⟩
 have b6H := Ho.mk b6
 have T0 := Ho.mk t0
 clear C4 b6 t0
 go_wp2_with fail
 have C7 := Ho.mk (dDst1 (TT.out.bel (BB.out.trans b6H.out)) (HX.out.bel (BB.out.trans b6H.out)) (by have := HXL.out; omega) E1.out.1 E1.out.2)
 (with_reducible refine C7.out.mono ?_); rintro e v8 ⟨Q1, c1, rfl, t1, _, b9⟩
 have b9H := Ho.mk b9
 have T1 := Ho.mk t1
 clear C7 b9 t1
 simp only [List.length_nil] at *
 go_wp2_with fail
 have HWf : Ho (∃ q, q = v8) := ⟨⟨_, rfl⟩⟩
 go_loopw [9] (fun v wr => v = .int .i64 0 ∧ wr = v8) (fun _ _ => 0)
 case atStart => exact ⟨rfl, rfl⟩
 case round =>
  obtain ⟨rfl, rfl⟩ := hrel
  obtain ⟨wo9, rfl⟩ : ∃ wo : World, wo = wr := ⟨_, rfl⟩
  go_wp2_with fail
  go_loopw [10] (fun v wr => v = .int .i64 0 ∧ wr = wo9) (fun _ _ => 0)
  case atStart => exact ⟨rfl, rfl⟩
  case round =>
   obtain ⟨rfl, rfl⟩ := hrel
   obtain ⟨wo10, rfl⟩ : ∃ wo : World, wo = wr := ⟨_, rfl⟩
   go_wp2_with fail
   have C10 := Ho.mk (pSameRow (z := true) (HX.out.bel ((BB.out.trans b6H.out).trans b9H.out)) (inn (R4.out.bel (b6H.out.trans b9H.out)) (by have := HXL.out; omega)) (by have := HXL.out; omega) (by have := HXL.out; omega) (by simp))
   (with_reducible refine C10.out.mono ?_); rintro e v11 ⟨rfl, b12⟩
   have b12H := Ho.mk b12
   clear C10 b12
   go_wp2
   go_ret
   exact ⟨rfl, (((BB.out.trans b6H.out).trans b9H.out).trans b12H.out)⟩
theorem given18Y0 {A : Option Addr} {c n : Nat} {X : List Nat} (w : World) (T : Tab w) (hx : In w (.slice A n c) X) (hX : X.length = n) (hl : n ≤ 64) (hn0 : 0 < n) (hok0 : okC n = true) (hok1 : okD n = true) : Calls Tryz.prog 8 #[.slice A n c] w (fun e w' => e = .returned (.bool true) ∧ Bel w w') := by
 have TT := Ho.mk T
 have HX := Ho.mk hx
 have HXL := Ho.mk hX
 rw [← hX] at hok0 hok1
 obtain ⟨Z0, hZ0⟩ : ∃ Z, Z = d1R false X := ⟨_, rfl⟩
 have LZ0 := Ho.mk (show Z0.length = n by rw [hZ0, (d1_yes (s := false) hok0).1, hX])
 have E0 := Ho.mk (show Z0 = d1R false X ∧ 0 = d1E false X from ⟨hZ0, (d1_yes (s := false) hok0).2.symm⟩)
 clear hZ0
 obtain ⟨Z1, hZ1⟩ : ∃ Z, Z = d1R true X := ⟨_, rfl⟩
 have LZ1 := Ho.mk (show Z1.length = n by rw [hZ1, (d1_yes (s := true) hok1).1, hX])
 have E1 := Ho.mk (show Z1 = d1R true X ∧ 0 = d1E true X from ⟨hZ1, (d1_yes (s := true) hok1).2.symm⟩)
 clear hZ1
 have hl2 : ¬ (64 : Int) < (n : Int) := by omega
 clear T hx hX hok0 hok1
 go_enter Tryz.func8, Tryz.ntmps8
 go_wp2_with fail
 have C1 := Ho.mk (head18 w (TT.out.bel (Bel.refl _)))
 (with_reducible refine C1.out.mono ?_); rintro e v2 ⟨rfl, b3⟩
 have b3H := Ho.mk b3
 clear C1 b3
 have hsz : v2.heap.size = v2.heap.size := rfl
 have K0 := Blk.new v2 [] 22
 have B0 := (Bel.refl v2).alloc (.cells #[] 22)
 have I0 := (HX.out.bel b3H.out).bel B0
 go_upto_region 5 with (at_builtin; refine wpList_own rfl _ _ rfl rfl K0 rfl I0 (by have := HXL.out; omega) HXL.out ?_; intro A4 c4 w3 r4 G4; have R4 := Ho.mk r4; have GG := Ho.mk G4; clear r4 G4 K0 I0)
 have sB := b3H.out.size
 have BB := Ho.mk (GG.out.bel (b3H.out.trans B0) sB)
 obtain ⟨bw, rfl, hq, hcw, hcw2, H⟩ := grow_own (b3H.out.trans B0) sB GG.out R4.out (by have := HXL.out; omega)
 replace H := Ho.mk H
 have CW := Ho.mk (And.intro hcw hcw2)
 clear hcw hcw2 GG R4 BB B0 sB hsz hq
 go_wp2_with fail
 have C0 := Ho.mk (dDct1 (TT.out.bel H.out.bel) (HX.out.bel H.out.bel) (by have := HXL.out; omega) E0.out.1 E0.out.2)
 (with_reducible refine C0.out.mono ?_); rintro e v0 ⟨A0, c0, rfl, j0, r0, p0⟩; clear j0
 obtain ⟨b0, P0, rfl, f0, g0, l0, _⟩ := r0.out.resolve_left (by rw [LZ0.out]; omega)
 rw [LZ0.out] at l0 ⊢
 rw [Nat.zero_add] at l0
 replace H := Ho.mk (H.out.new (e := .row b0 P0) p0 f0 g0)
 have LP0 := Ho.mk l0
 clear C0 r0 p0 f0 g0 l0
 go_wp2_with fail
 have C1 := Ho.mk (dDst1 (TT.out.bel H.out.bel) (HX.out.bel H.out.bel) (by have := HXL.out; omega) E1.out.1 E1.out.2)
 (with_reducible refine C1.out.mono ?_); rintro e v1 ⟨A1, c1, rfl, j1, r1, p1⟩; clear j1
 obtain ⟨b1, P1, rfl, f1, g1, l1, _⟩ := r1.out.resolve_left (by rw [LZ1.out]; omega)
 rw [LZ1.out] at l1 ⊢
 replace H := Ho.mk (H.out.new (e := .row b1 P1) p1 f1 g1)
 have LP1 := Ho.mk l1
 clear C1 r1 p1 f1 g1 l1
 go_wp2_with fail
 go_loopw [9] (fun v wr => ∃ (i : Nat) (Y0x9 : List Nat), i ≤ n ∧ v = .int .i64 i ∧ Ho (Y0x9.length = n) ∧ Ho (Hp w wr [.row b1 P1, .row b0 Y0x9, .row bw X])) (fun v _ => n - (intOf v).toNat)
 case atStart => exact ⟨0, P0, Nat.zero_le _, rfl, LP0, H⟩
 case round =>
  clear H LP0 E0
  obtain ⟨i, Y0x9, hi, rfl, L0x9, H⟩ := hrel
  rcases Nat.lt_or_ge i n with hlt | hge
  ·have hlt2 := hlt
   obtain ⟨_, y0, _, _⟩ := (H.out.row 1 rfl).at_ (i := i) (by rw [L0x9.out]; omega)
   have x0 := (H.out.row 1 rfl).free (i)
   go_wp2_with fail
   replace H := Ho.mk (H.out.setF 1 rfl (i) (r := 4635118810238550016) (by decide) rfl)
   simp only [List.set_cons_zero, List.set_cons_succ] at H
   clear y0 x0
   go_roundw
   case rel => exact ⟨i + 1, _, by omega, by simp, ⟨by rw [List.length_set]; exact L0x9.out⟩, H⟩
   case measure => simp [intOf]; omega
  ·obtain rfl : n = i := by omega
   obtain ⟨wo9, rfl⟩ : ∃ wo : World, wo = wr := ⟨_, rfl⟩
   go_wp2_with fail
   go_loopw [10] (fun v wr => ∃ (i : Nat) (Y1x10 : List Nat), i ≤ n ∧ v = .int .i64 i ∧ Ho (Y1x10.length = 1 + n) ∧ Ho (Hp w wr [.row b1 Y1x10, .row b0 Y0x9, .row bw X])) (fun v _ => n - (intOf v).toNat)
   case atStart => exact ⟨0, P1, Nat.zero_le _, rfl, LP1, H⟩
   case round =>
    clear H LP1 E1
    obtain ⟨i, Y1x10, hi, rfl, L1x10, H⟩ := hrel
    rcases Nat.lt_or_ge i n with hlt | hge
    ·have hlt2 := hlt
     obtain ⟨_, y1, _, _⟩ := (H.out.row 0 rfl).at_ (i := 1 + i) (by rw [L1x10.out]; omega)
     have x1 := (H.out.row 0 rfl).free (1 + i)
     go_wp2_with fail
     replace H := Ho.mk (H.out.setF 0 rfl (1 + i) (r := 4635118810238550016) (by decide) rfl)
     simp only [List.set_cons_zero, List.set_cons_succ] at H
     clear y1 x1
     go_roundw
     case rel => exact ⟨i + 1, _, by omega, by simp, ⟨by rw [List.length_set]; exact L1x10.out⟩, H⟩
     case measure => simp [intOf]; omega
    ·obtain rfl : n = i := by omega
     obtain ⟨wo10, rfl⟩ : ∃ wo : World, wo = wr := ⟨_, rfl⟩
     go_wp2_with fail
     have C8 := Ho.mk (pSameRow (z := true) (HX.out.bel H.out.bel) (fz_inn (H.out.row 2 rfl) HXL.out (by omega) (by have := CW.out.1; have := HXL.out; omega) CW.out.2) (by have := HXL.out; omega) (by have := HXL.out; omega) (by simp))
     (with_reducible refine C8.out.mono ?_); rintro e w8 ⟨rfl, b8⟩
     go_wp2
     go_ret
     exact ⟨rfl, H.out.bel.trans b8⟩
theorem given18Y1 {A : Option Addr} {c n : Nat} {X : List Nat} (w : World) (T : Tab w) (hx : In w (.slice A n c) X) (hX : X.length = n) (hl : n ≤ 64) (hn0 : 0 < n) (hok0 : okC n = true) (hok1 : okD n = false) : Calls Tryz.prog 8 #[.slice A n c] w (fun e w' => e = .returned (.bool true) ∧ Bel w w') := by
 have TT := Ho.mk T
 have HX := Ho.mk hx
 have HXL := Ho.mk hX
 rw [← hX] at hok0 hok1
 obtain ⟨Z0, hZ0⟩ : ∃ Z, Z = d1R false X := ⟨_, rfl⟩
 have LZ0 := Ho.mk (show Z0.length = n by rw [hZ0, (d1_yes (s := false) hok0).1, hX])
 have E0 := Ho.mk (show Z0 = d1R false X ∧ 0 = d1E false X from ⟨hZ0, (d1_yes (s := false) hok0).2.symm⟩)
 clear hZ0
 have E1 := Ho.mk (show [] = d1R true X ∧ 2 = d1E true X from ⟨(d1_no (s := true) hok1).1.symm, (d1_no (s := true) hok1).2.symm⟩)
 have hl2 : ¬ (64 : Int) < (n : Int) := by omega
 clear T hx hX hok0 hok1
 go_enter Tryz.func8, Tryz.ntmps8
 go_wp2_with fail
 have C1 := Ho.mk (head18 w (TT.out.bel (Bel.refl _)))
 (with_reducible refine C1.out.mono ?_); rintro e v2 ⟨rfl, b3⟩
 have b3H := Ho.mk b3
 clear C1 b3
 have hsz : v2.heap.size = v2.heap.size := rfl
 have K0 := Blk.new v2 [] 22
 have B0 := (Bel.refl v2).alloc (.cells #[] 22)
 have I0 := (HX.out.bel b3H.out).bel B0
 go_upto_region 5 with (at_builtin; refine wpList_own rfl _ _ rfl rfl K0 rfl I0 (by have := HXL.out; omega) HXL.out ?_; intro A4 c4 w3 r4 G4; have R4 := Ho.mk r4; have GG := Ho.mk G4; clear r4 G4 K0 I0)
 have sB := b3H.out.size
 have BB := Ho.mk (GG.out.bel (b3H.out.trans B0) sB)
 obtain ⟨bw, rfl, hq, hcw, hcw2, H⟩ := grow_own (b3H.out.trans B0) sB GG.out R4.out (by have := HXL.out; omega)
 replace H := Ho.mk H
 have CW := Ho.mk (And.intro hcw hcw2)
 clear hcw hcw2 GG R4 BB B0 sB hsz hq
 go_wp2_with fail
 have C0 := Ho.mk (dDct1 (TT.out.bel H.out.bel) (HX.out.bel H.out.bel) (by have := HXL.out; omega) E0.out.1 E0.out.2)
 (with_reducible refine C0.out.mono ?_); rintro e v0 ⟨A0, c0, rfl, j0, r0, p0⟩; clear j0
 obtain ⟨b0, P0, rfl, f0, g0, l0, _⟩ := r0.out.resolve_left (by rw [LZ0.out]; omega)
 rw [LZ0.out] at l0 ⊢
 rw [Nat.zero_add] at l0
 replace H := Ho.mk (H.out.new (e := .row b0 P0) p0 f0 g0)
 have LP0 := Ho.mk l0
 clear C0 r0 p0 f0 g0 l0
 go_wp2_with fail
 have C1 := Ho.mk (dDst1 (TT.out.bel H.out.bel) (HX.out.bel H.out.bel) (by have := HXL.out; omega) E1.out.1 E1.out.2)
 (with_reducible refine C1.out.mono ?_); rintro e v1 ⟨A1, c1, rfl, j1, r1, p1⟩; clear j1
 simp only [List.length_nil] at *
 replace H := Ho.mk (H.out.grow p1)
 clear C1 r1 p1
 go_wp2_with fail
 go_loopw [9] (fun v wr => ∃ (i : Nat) (Y0x9 : List Nat), i ≤ n ∧ v = .int .i64 i ∧ Ho (Y0x9.length = n) ∧ Ho (Hp w wr [.row b0 Y0x9, .row bw X])) (fun v _ => n - (intOf v).toNat)
 case atStart => exact ⟨0, P0, Nat.zero_le _, rfl, LP0, H⟩
 case round =>
  clear H LP0 E0
  obtain ⟨i, Y0x9, hi, rfl, L0x9, H⟩ := hrel
  rcases Nat.lt_or_ge i n with hlt | hge
  ·have hlt2 := hlt
   obtain ⟨_, y0, _, _⟩ := (H.out.row 0 rfl).at_ (i := i) (by rw [L0x9.out]; omega)
   have x0 := (H.out.row 0 rfl).free (i)
   go_wp2_with fail
   replace H := Ho.mk (H.out.setF 0 rfl (i) (r := 4635118810238550016) (by decide) rfl)
   simp only [List.set_cons_zero, List.set_cons_succ] at H
   clear y0 x0
   go_roundw
   case rel => exact ⟨i + 1, _, by omega, by simp, ⟨by rw [List.length_set]; exact L0x9.out⟩, H⟩
   case measure => simp [intOf]; omega
  ·obtain rfl : n = i := by omega
   obtain ⟨wo9, rfl⟩ : ∃ wo : World, wo = wr := ⟨_, rfl⟩
   go_wp2_with fail
   go_loopw [10] (fun v wr => v = .int .i64 0 ∧ Ho (Hp w wr [.row b0 Y0x9, .row bw X])) (fun _ _ => 0)
   case atStart => exact ⟨rfl, H⟩
   case round =>
    clear H
    obtain ⟨rfl, H⟩ := hrel
    obtain ⟨wo10, rfl⟩ : ∃ wo : World, wo = wr := ⟨_, rfl⟩
    go_wp2_with fail
    have C8 := Ho.mk (pSameRow (z := true) (HX.out.bel H.out.bel) (fz_inn (H.out.row 1 rfl) HXL.out (by omega) (by have := CW.out.1; have := HXL.out; omega) CW.out.2) (by have := HXL.out; omega) (by have := HXL.out; omega) (by simp))
    (with_reducible refine C8.out.mono ?_); rintro e w8 ⟨rfl, b8⟩
    go_wp2
    go_ret
    exact ⟨rfl, H.out.bel.trans b8⟩
theorem given18Y2 {A : Option Addr} {c n : Nat} {X : List Nat} (w : World) (T : Tab w) (hx : In w (.slice A n c) X) (hX : X.length = n) (hl : n ≤ 64) (hn0 : 0 < n) (hok0 : okC n = false) (hok1 : okD n = true) : Calls Tryz.prog 8 #[.slice A n c] w (fun e w' => e = .returned (.bool true) ∧ Bel w w') := by
 have TT := Ho.mk T
 have HX := Ho.mk hx
 have HXL := Ho.mk hX
 rw [← hX] at hok0 hok1
 have E0 := Ho.mk (show [] = d1R false X ∧ 2 = d1E false X from ⟨(d1_no (s := false) hok0).1.symm, (d1_no (s := false) hok0).2.symm⟩)
 obtain ⟨Z1, hZ1⟩ : ∃ Z, Z = d1R true X := ⟨_, rfl⟩
 have LZ1 := Ho.mk (show Z1.length = n by rw [hZ1, (d1_yes (s := true) hok1).1, hX])
 have E1 := Ho.mk (show Z1 = d1R true X ∧ 0 = d1E true X from ⟨hZ1, (d1_yes (s := true) hok1).2.symm⟩)
 clear hZ1
 have hl2 : ¬ (64 : Int) < (n : Int) := by omega
 clear T hx hX hok0 hok1
 go_enter Tryz.func8, Tryz.ntmps8
 go_wp2_with fail
 have C1 := Ho.mk (head18 w (TT.out.bel (Bel.refl _)))
 (with_reducible refine C1.out.mono ?_); rintro e v2 ⟨rfl, b3⟩
 have b3H := Ho.mk b3
 clear C1 b3
 have hsz : v2.heap.size = v2.heap.size := rfl
 have K0 := Blk.new v2 [] 22
 have B0 := (Bel.refl v2).alloc (.cells #[] 22)
 have I0 := (HX.out.bel b3H.out).bel B0
 go_upto_region 5 with (at_builtin; refine wpList_own rfl _ _ rfl rfl K0 rfl I0 (by have := HXL.out; omega) HXL.out ?_; intro A4 c4 w3 r4 G4; have R4 := Ho.mk r4; have GG := Ho.mk G4; clear r4 G4 K0 I0)
 have sB := b3H.out.size
 have BB := Ho.mk (GG.out.bel (b3H.out.trans B0) sB)
 obtain ⟨bw, rfl, hq, hcw, hcw2, H⟩ := grow_own (b3H.out.trans B0) sB GG.out R4.out (by have := HXL.out; omega)
 replace H := Ho.mk H
 have CW := Ho.mk (And.intro hcw hcw2)
 clear hcw hcw2 GG R4 BB B0 sB hsz hq
 go_wp2_with fail
 have C0 := Ho.mk (dDct1 (TT.out.bel H.out.bel) (HX.out.bel H.out.bel) (by have := HXL.out; omega) E0.out.1 E0.out.2)
 (with_reducible refine C0.out.mono ?_); rintro e v0 ⟨A0, c0, rfl, j0, r0, p0⟩; clear j0
 simp only [List.length_nil] at *
 replace H := Ho.mk (H.out.grow p0)
 clear C0 r0 p0
 go_wp2_with fail
 have C1 := Ho.mk (dDst1 (TT.out.bel H.out.bel) (HX.out.bel H.out.bel) (by have := HXL.out; omega) E1.out.1 E1.out.2)
 (with_reducible refine C1.out.mono ?_); rintro e v1 ⟨A1, c1, rfl, j1, r1, p1⟩; clear j1
 obtain ⟨b1, P1, rfl, f1, g1, l1, _⟩ := r1.out.resolve_left (by rw [LZ1.out]; omega)
 rw [LZ1.out] at l1 ⊢
 replace H := Ho.mk (H.out.new (e := .row b1 P1) p1 f1 g1)
 have LP1 := Ho.mk l1
 clear C1 r1 p1 f1 g1 l1
 go_wp2_with fail
 go_loopw [9] (fun v wr => v = .int .i64 0 ∧ Ho (Hp w wr [.row b1 P1, .row bw X])) (fun _ _ => 0)
 case atStart => exact ⟨rfl, H⟩
 case round =>
  clear H
  obtain ⟨rfl, H⟩ := hrel
  obtain ⟨wo9, rfl⟩ : ∃ wo : World, wo = wr := ⟨_, rfl⟩
  go_wp2_with fail
  go_loopw [10] (fun v wr => ∃ (i : Nat) (Y1x10 : List Nat), i ≤ n ∧ v = .int .i64 i ∧ Ho (Y1x10.length = 1 + n) ∧ Ho (Hp w wr [.row b1 Y1x10, .row bw X])) (fun v _ => n - (intOf v).toNat)
  case atStart => exact ⟨0, P1, Nat.zero_le _, rfl, LP1, H⟩
  case round =>
   clear H LP1 E1
   obtain ⟨i, Y1x10, hi, rfl, L1x10, H⟩ := hrel
   rcases Nat.lt_or_ge i n with hlt | hge
   ·have hlt2 := hlt
    obtain ⟨_, y1, _, _⟩ := (H.out.row 0 rfl).at_ (i := 1 + i) (by rw [L1x10.out]; omega)
    have x1 := (H.out.row 0 rfl).free (1 + i)
    go_wp2_with fail
    replace H := Ho.mk (H.out.setF 0 rfl (1 + i) (r := 4635118810238550016) (by decide) rfl)
    simp only [List.set_cons_zero, List.set_cons_succ] at H
    clear y1 x1
    go_roundw
    case rel => exact ⟨i + 1, _, by omega, by simp, ⟨by rw [List.length_set]; exact L1x10.out⟩, H⟩
    case measure => simp [intOf]; omega
   ·obtain rfl : n = i := by omega
    obtain ⟨wo10, rfl⟩ : ∃ wo : World, wo = wr := ⟨_, rfl⟩
    go_wp2_with fail
    have C8 := Ho.mk (pSameRow (z := true) (HX.out.bel H.out.bel) (fz_inn (H.out.row 1 rfl) HXL.out (by omega) (by have := CW.out.1; have := HXL.out; omega) CW.out.2) (by have := HXL.out; omega) (by have := HXL.out; omega) (by simp))
    (with_reducible refine C8.out.mono ?_); rintro e w8 ⟨rfl, b8⟩
    go_wp2
    go_ret
    exact ⟨rfl, H.out.bel.trans b8⟩
theorem given18_door (A : Option Addr) (c : Nat) (X : List Nat) (w : World) (T : Tab w) (hx : In w (.slice A X.length c) X) : Calls Tryz.prog 8 #[.slice A X.length c] w (fun e w' => e = .returned (.bool true) ∧ Bel w w') := by
 by_cases hl : X.length ≤ 64
 ·cases h1 : okC X.length with
  | true =>
   have h0 : 0 < X.length := by
    have := (okS_c h1).1
    have := Nat.two_pow_pos (pS false X.length)
    omega
   cases h2 : okD X.length with
   | true => exact given18Y0 w T hx rfl hl h0 h1 h2
   | false => exact given18Y1 w T hx rfl hl h0 h1 h2
  | false =>
   cases h2 : okD X.length with
   | true =>
    have h0 : 0 < X.length := by
     by_cases q : X.length = 0
     ·rw [q] at h2; exact absurd h2 (by decide)
     ·omega
    exact given18Y2 w T hx rfl hl h0 h1 h2
   | false => exact given18N w T hx rfl hl h1 h2
 ·exact given18L w T hx rfl (by omega)
end Lo
end Go.Proofs.YtalbgklfhabnkaaGreatDoor
