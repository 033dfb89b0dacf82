/-
  Joined, of what this claim leans on: M1, M2, Pj, Pf, Lh.
-/
import Derived.Deep.AppendLies
import Derived.Deep.Slices
import Derived.ChangeSame
import Derived.Test.YtnbdoidccacdnaaGreatDoorJRfftGiven7
set_option linter.unusedVariables false
set_option linter.unusedSimpArgs false
set_option maxRecDepth 100000
set_option maxHeartbeats 16000000
namespace Go.Proofs.YtnbdoidccacdnaaGreatDoor
namespace M1
open M0
variable {α : Type} (O : Ops α)
theorem ext_nth {a b : List α} (hl : a.length = b.length) (h : ∀ i, i < a.length → nthG O a i = nthG O b i) : a = b := by
 apply List.ext_getElem hl
 intro i h1 h2
 have := h i h1
 rwa [nthG_lt O h1, nthG_lt O h2] at this
theorem nthG_app (a b : List α) (i : Nat) : nthG O (a ++ b) i = if i < a.length then nthG O a i else nthG O b (i - a.length) := by
 simp only [nthG, List.getD_eq_getElem?_getD, List.getElem?_append]
 split <;> rfl
end M1
namespace M2
open M0 M1
variable {α : Type} (O : Ops α)
theorem nthG_even (l : List α) {i : Nat} (h : i < (l.length + 1) / 2) : nthG O (evenG O l) i = nthG O l (2 * i) := nthG_map O _ h
theorem nthG_odd (l : List α) {i : Nat} (h : i < l.length / 2) : nthG O (oddG O l) i = nthG O l (2 * i + 1) := nthG_map O _ h
end M2
namespace Pj
open Ieee Go Go.RowKit Go.Proofs Go.Proofs.YtnbdoidccacdnaaGreatDoor Ow Dt Gp I0 U0 W0 S4 S6 P0 M0 M1 M2 M3 P4 P5 P6 P8 W4 W5 Pc Pe Pg
attribute [local go_sem ↓] Go.wp_at_zero Go.wp_at_succ
theorem dSmall {n m c c' : Nat} {A B : Option Addr} (w : World) : Calls Tryz.prog 16 #[.agg #[.slice A n c, .slice B m c']] w (fun e w' => e = .returned (.bool (decide (n ≤ 64 ∧ m ≤ 64))) ∧ Bel w w') := by
 have KV := Ho.mk (Blk.new w [.slice A n c, .slice B m c'] 24)
 have g0 := Ho.mk ((Bel.refl w).alloc (.cells #[.slice A n c, .slice B m c'] 24))
 by_cases hn : n ≤ 64
 all_goals by_cases hm : m ≤ 64
 all_goals
  have e : decide (n ≤ 64 ∧ m ≤ 64) = (decide (n ≤ 64) && decide (m ≤ 64)) := by simp
  rw [e]
  simp only [hn, hm, decide_true, decide_false, Bool.and_true, Bool.and_false, Bool.true_and, Bool.false_and]
  go_enter Tryz.func16, Tryz.ntmps16
  go_upto_region 1 with fail
  generalize w.alloc (.cells #[.slice A n c, .slice B m c'] 24) = W at *
  have y0 := KV.out.cell (i := 0) rfl
  have y1 := KV.out.cell (i := 1) rfl
  go_wp2
  go_ret
  exact ⟨by simp <;> omega, g0.out⟩
end Pj
namespace Pf
open Go Go.ChangeShapes Go.WideShapes Go.ChangeAt Go.RowKit Go.Proofs.YtnbdoidccacdnaaGreatDoor Ow Dt Gp W0 W4 W5 Pg Pd
theorem cV : Tryz.prog.cellsOf 24 = 2 := by kernel_rfl
theorem cS : Tryz.prog.cellsOf 22 = 1 := by kernel_rfl
theorem open_vec {H : Type} {enc : TypeId × Value → H} {W : World} {base : Nat} {v : Value} {d : DataW H} {p : List MemPlace} (hval : Value.okWide Tryz.prog W .any base 24 v) (hd : DataW.Trod enc Tryz.prog W 0 (fun _ => true) true 24 v d p)
  (hsz : ∀ n ∈ d.weights Tryz.prog 24, n ≤ reachBytes) :
  ∃ A c X B d Y, v = .agg #[.slice A X.length c, .slice B Y.length d] ∧ In W (.slice A X.length c) X ∧ In W (.slice B Y.length d) Y := by
 obtain ⟨cs, rfl, hcs⟩ := okWide_struct Tryz.underlying24 hval
 rw [cV] at hcs
 obtain ⟨fuel, hf⟩ := hd
 obtain ⟨y0, y1, n, hx, hl, t0, t1⟩ := trod_struct2 Tryz.underlying24 hf
 obtain ⟨l⟩ := cs
 match l, hcs with
 | [x0, x1], _ =>
  simp only [cS, Value.cells] at t0 t1
  simp only [List.drop_zero, List.take_succ_cons, List.take_zero, List.drop_succ_cons] at t0 t1
  have hy : d = DataW.agg [y0.1, y1.1] := congrArg Prod.fst hx
  have hy0 : ∀ n ∈ y0.1.weights Tryz.prog 22, n ≤ reachBytes := fun n hn => hsz n (by
   rw [hy]
   simp only [DataW.weights, Tryz.underlying24, List.map_cons, List.map_nil, DataW.weightsEach, List.mem_append]
   exact .inl hn)
  have hy1 : ∀ n ∈ y1.1.weights Tryz.prog 22, n ≤ reachBytes := fun n hn => hsz n (by
   rw [hy]
   simp only [DataW.weights, Tryz.underlying24, List.map_cons, List.map_nil, DataW.weightsEach, List.mem_append]
   exact .inr (.inl hn))
  obtain ⟨A, c, X, e0, i0, _⟩ := open_row t0 hy0
  obtain ⟨B, d, Y, e1, i1, _⟩ := open_row t1 hy1
  simp only [List.cons.injEq, and_true] at e0 e1
  subst e0; subst e1
  exact ⟨A, c, X, B, d, Y, rfl, i0, i1⟩
end Pf
namespace Lh
open Ieee Go Go.RowKit Go.Proofs Go.Proofs.YtnbdoidccacdnaaGreatDoor Ow Dt Gp I0 U0 W0 S4 S6 P0 M0 M1 M3 W4 W5 V2 P4 Y3 Yh Y1 P8 Pc Y5 Y6 Y7 Y8 Pk Lv Pj Le Lf Lg
open Go.Proofs.YtnbdoidccacdnaaGreatDoor.V1 (NI St ni_same ni_loop St.refl St.of_bel blk_keep ni_blk put_st)
open Go.Proofs.YtnbdoidccacdnaaGreatDoor.C6 (leaveAny)
open Go.Proofs.YtnbdoidccacdnaaGreatDoor.Pg (In)
attribute [local go_sem ↓] Go.wp_at_zero Go.wp_at_succ
theorem nthN_app (a b : List Nat) (i : Nat) : nthN (a ++ b) i = if i < a.length then nthN a i else nthN b (i - a.length) := nthG_app opsN a b i
theorem ext_N {a b : List Nat} (hl : a.length = b.length) (h : ∀ i, i < a.length → nthN a i = nthN b i) : a = b := ext_nth opsN hl h
theorem packN_len (X Y : List Nat) : (packN X Y).length = 2 * (X.length - 1) := by simp [packN]
theorem packN_at {X Y : List Nat} {i : Nat} (h : i < 2 * (X.length - 1)) : nthN (packN X Y) i = packRow X Y (X.length - 1) i := nthG_map opsN _ h
theorem log_two : ∀ n : Fin 129, (0 ≤ logI n.val → okR (2 * n.val) = true) ∧ (okR n.val = true → 0 ≤ logI (n.val / 2) ∧ n.val = 2 * (n.val / 2)) := by decide +kernel
theorem pack_bins {X : List Nat} (hl : X.length ≤ 128) (hok : okR X.length = true) : pkR (binsRe X) (binsIm X) = X ∧ okK (binsRe X) (binsIm X) = true := by
 obtain ⟨k1, k2, k3⟩ := bins_len hok
 obtain ⟨q1, q2⟩ := (log_two ⟨X.length, by omega⟩).2 hok
 dsimp only at q1 q2
 obtain ⟨m, hm⟩ : ∃ m, m = X.length / 2 := ⟨_, rfl⟩
 rw [← hm] at k1 k2 q1 q2
 have lE : (M2.evenG opsN X).length = m := by rw [M2.evenG_len]; omega
 have lO : (M2.oddG opsN X).length = m := by rw [M2.oddG_len]; omega
 have eR : binsRe X = M2.evenG opsN X ++ [nthN (M2.oddG opsN X) 0] := by unfold binsRe; rw [if_pos hok]
 have eI : binsIm X = (M2.oddG opsN X).set 0 0 ++ [0] := by unfold binsIm; rw [if_pos hok]
 have ev : ∀ j, j < m → nthN (M2.evenG opsN X) j = nthN X (2 * j) := fun j hj => M2.nthG_even opsN X (by omega)
 have od : ∀ j, j < m → nthN (M2.oddG opsN X) j = nthN X (2 * j + 1) := fun j hj => M2.nthG_odd opsN X (by omega)
 have re : ∀ j, j < m → nthN (binsRe X) j = nthN X (2 * j) := fun j hj => by rw [eR, nthN_app, if_pos (by omega), ev j hj]
 have rm : nthN (binsRe X) m = nthN X 1 := by rw [eR, nthN_app, if_neg (by omega), lE, Nat.sub_self]; show nthN (M2.oddG opsN X) 0 = _; rw [od 0 (by omega)]
 have i0 : nthN (binsIm X) 0 = 0 := by rw [eI, nthN_app, if_pos (by rw [List.length_set]; omega), nthN_set, if_pos ⟨rfl, by omega⟩]
 have im : nthN (binsIm X) m = 0 := by rw [eI, nthN_app, if_neg (by rw [List.length_set]; omega), List.length_set, lO, Nat.sub_self]; rfl
 have ii : ∀ j, 0 < j → j < m → nthN (binsIm X) j = nthN X (2 * j + 1) := fun j h0 hj => by rw [eI, nthN_app, if_pos (by rw [List.length_set]; omega), nthN_set, if_neg (by omega), od j hj]
 have hk : okK (binsRe X) (binsIm X) = true := by
  unfold okK
  exact decide_eq_true ⟨by rw [k1, k2], by omega, by rw [k1, Nat.add_sub_cancel]; exact q1, i0, by rw [k1, Nat.add_sub_cancel]; exact im⟩
 refine ⟨?_, hk⟩
 unfold pkR; rw [if_pos hk]
 refine ext_N (by rw [packN_len, k1]; omega) fun i hi => ?_
 rw [packN_len] at hi
 rw [packN_at hi, k1, Nat.add_sub_cancel]
 rw [k1, Nat.add_sub_cancel] at hi
 unfold packRow
 by_cases h0 : i = 0
 ·rw [if_pos h0, re 0 (by omega), h0]
 ·rw [if_neg h0]
  by_cases h1 : i = 1
  ·rw [if_pos h1, rm, h1]
  ·rw [if_neg h1]
   by_cases h2 : i % 2 = 0
   ·rw [if_pos h2, re _ (by omega), show 2 * (i / 2) = i by omega]
   ·rw [if_neg h2, ii _ (by omega) (by omega), show 2 * (i / 2) + 1 = i by omega]
theorem bins_pack {X Y : List Nat} (hl : X.length ≤ 64) (hk : okK X Y = true) : binsRe (pkR X Y) = X ∧ binsIm (pkR X Y) = Y ∧ okR (pkR X Y).length = true ∧ (pkR X Y).length ≤ 128 := by
 have hk' := hk
 unfold okK at hk'
 obtain ⟨a1, a2, a3, a4, a5⟩ := of_decide_eq_true hk'
 obtain ⟨m, hm⟩ : ∃ m, m = X.length - 1 := ⟨_, rfl⟩
 rw [← hm] at a3 a5
 have e : pkR X Y = packN X Y := by unfold pkR; rw [if_pos hk]
 have hlen : (packN X Y).length = 2 * m := by rw [packN_len, hm]
 have hm1 : 1 ≤ m := by
  rcases Nat.eq_zero_or_pos m with q | q
  ·rw [q] at a3; exact absurd a3 (by decide)
  ·exact q
 have hok : okR (packN X Y).length = true := by rw [hlen]; exact (log_two ⟨m, by omega⟩).1 a3
 have pa : ∀ i, i < 2 * m → nthN (packN X Y) i = packRow X Y m i := fun i hi => by rw [packN_at (by omega), hm]
 rw [e]
 refine ⟨?_, ?_, hok, by omega⟩
 ·unfold binsRe; rw [if_pos hok]
  have lE : (M2.evenG opsN (packN X Y)).length = m := by rw [M2.evenG_len, hlen]; omega
  refine ext_N (by rw [List.length_append, lE]; simp only [List.length_cons, List.length_nil]; omega) fun i hi => ?_
  rw [nthN_app, lE]
  split
  ·rename_i c
   rw [show nthN (M2.evenG opsN (packN X Y)) i = nthN (packN X Y) (2 * i) from M2.nthG_even opsN _ (by rw [hlen]; omega), pa _ (by omega)]
   unfold packRow
   by_cases h0 : i = 0
   ·subst h0; rfl
   ·rw [if_neg (by omega), if_neg (by omega), if_pos (by omega), show 2 * i / 2 = i by omega]
  ·rename_i c
   rw [List.length_append, lE] at hi
   simp only [List.length_cons, List.length_nil] at hi
   obtain rfl : i = m := by omega
   rw [Nat.sub_self]
   show nthN (M2.oddG opsN (packN X Y)) 0 = _
   rw [show nthN (M2.oddG opsN (packN X Y)) 0 = nthN (packN X Y) (2 * 0 + 1) from M2.nthG_odd opsN _ (by rw [hlen]; omega), pa _ (by omega)]
   rfl
 ·unfold binsIm; rw [if_pos hok]
  have lO : (M2.oddG opsN (packN X Y)).length = m := by rw [M2.oddG_len, hlen]; omega
  refine ext_N (by rw [List.length_append, List.length_set, lO]; simp only [List.length_cons, List.length_nil]; omega) fun i hi => ?_
  rw [nthN_app, List.length_set, lO]
  split
  ·rename_i c
   rw [nthN_set]
   by_cases h0 : i = 0
   ·subst h0; rw [if_pos ⟨rfl, by omega⟩]; exact a4.symm
   ·rw [if_neg (by omega), show nthN (M2.oddG opsN (packN X Y)) i = nthN (packN X Y) (2 * i + 1) from M2.nthG_odd opsN _ (by rw [hlen]; omega), pa _ (by omega)]
    unfold packRow
    rw [if_neg (by omega), if_neg (by omega), if_neg (by omega), show (2 * i + 1) / 2 = i by omega]
  ·rename_i c
   rw [List.length_append, List.length_set, lO] at hi
   simp only [List.length_cons, List.length_nil] at hi
   obtain rfl : i = m := by omega
   rw [Nat.sub_self]
   exact a5.symm
theorem bins14L {A B C : Option Addr} {c d f n n1 n2 : Nat} {X Y Z : List Nat} (w : World) (T : Tab w) (hx : In w (.slice A n c) X) (hy : In w (.slice B n1 d) Y) (hz : In w (.slice C n2 f) Z) (hX : X.length = n) (hY : Y.length = n1) (hZ : Z.length = n2) (hl : 64 < n) : Calls Tryz.prog 9 #[.slice A n c, .agg #[.slice B n1 d, .slice C n2 f]] w (fun e w' => e = .returned (.bool true) ∧ Bel w w') := by
 have TT := Ho.mk T
 have HX := Ho.mk hx
 have HY := Ho.mk hy
 have HZ := Ho.mk hz
 have HXL := Ho.mk hX
 have HYL := Ho.mk hY
 have HZL := Ho.mk hZ
 have hl2 : (64 : Int) < (n : Int) := by omega
 clear T hx hy hz hX hY hZ
 go_enter Tryz.func9, Tryz.ntmps9
 go_wp2_with fail
 have BV := Ho.mk (Blk.new w [.slice B n1 d, .slice C n2 f] 24)
 have g1 := Ho.mk ((Bel.refl w).alloc (.cells #[.slice B n1 d, .slice C n2 f] 24))
 generalize w.alloc (.cells #[.slice B n1 d, .slice C n2 f] 24) = v2 at *
 have C3 := Ho.mk (head14 v2 (TT.out.bel g1.out))
 (with_reducible refine C3.out.mono ?_); rintro e v4 ⟨rfl, b5⟩
 have b5H := Ho.mk b5
 clear C3 b5
 go_wp2
 go_ret
 exact ⟨rfl, (g1.out.trans b5H.out)⟩
theorem bins14S {A B C : Option Addr} {c d f n n1 n2 : Nat} {X Y Z : List Nat} (w : World) (T : Tab w) (hx : In w (.slice A n c) X) (hy : In w (.slice B n1 d) Y) (hz : In w (.slice C n2 f) Z) (hX : X.length = n) (hY : Y.length = n1) (hZ : Z.length = n2) (hl : n ≤ 64) (hs : ¬ (n1 ≤ 64 ∧ n2 ≤ 64)) : Calls Tryz.prog 9 #[.slice A n c, .agg #[.slice B n1 d, .slice C n2 f]] w (fun e w' => e = .returned (.bool true) ∧ Bel w w') := by
 have TT := Ho.mk T
 have HX := Ho.mk hx
 have HY := Ho.mk hy
 have HZ := Ho.mk hz
 have HXL := Ho.mk hX
 have HYL := Ho.mk hY
 have HZL := Ho.mk hZ
 have SM := Ho.mk (fun w => dSmall (n := n1) (m := n2) (A := B) (B := C) (c := d) (c' := f) w)
 rw [decide_eq_false hs] at SM
 have hl2 : ¬ (64 : Int) < (n : Int) := by omega
 clear T hx hy hz hX hY hZ hs
 go_enter Tryz.func9, Tryz.ntmps9
 go_wp2_with fail
 have BV := Ho.mk (Blk.new w [.slice B n1 d, .slice C n2 f] 24)
 have g1 := Ho.mk ((Bel.refl w).alloc (.cells #[.slice B n1 d, .slice C n2 f] 24))
 generalize w.alloc (.cells #[.slice B n1 d, .slice C n2 f] 24) = v2 at *
 have C3 := Ho.mk (head14 v2 (TT.out.bel g1.out))
 (with_reducible refine C3.out.mono ?_); rintro e v4 ⟨rfl, b5⟩
 have b5H := Ho.mk b5
 clear C3 b5
 have y6 := ((BV.out.bel b5H.out)).cell (i := 0) rfl
 have y7 := ((BV.out.bel b5H.out)).cell (i := 1) rfl
 go_wp2_with fail
 have C8 := Ho.mk (SM.out v4)
 (with_reducible refine C8.out.mono ?_); rintro e v9 ⟨rfl, b10⟩
 have b10H := Ho.mk b10
 clear C8 b10
 clear y6 y7
 go_wp2
 go_ret
 exact ⟨rfl, ((g1.out.trans b5H.out).trans b10H.out)⟩
theorem bins14NN {A B C : Option Addr} {c d f n n1 n2 : Nat} {X Y Z : List Nat} (w : World) (T : Tab w) (hx : In w (.slice A n c) X) (hy : In w (.slice B n1 d) Y) (hz : In w (.slice C n2 f) Z) (hX : X.length = n) (hY : Y.length = n1) (hZ : Z.length = n2) (hl : n ≤ 64) (hs : n1 ≤ 64 ∧ n2 ≤ 64) (hok : okR n = false) (hok2 : okK Y Z = false) : Calls Tryz.prog 9 #[.slice A n c, .agg #[.slice B n1 d, .slice C n2 f]] w (fun e w' => e = .returned (.bool true) ∧ Bel w w') := by
 have TT := Ho.mk T
 have HX := Ho.mk hx
 have HY := Ho.mk hy
 have HZ := Ho.mk hz
 have HXL := Ho.mk hX
 have HYL := Ho.mk hY
 have HZL := Ho.mk hZ
 have SM := Ho.mk (fun w => dSmall (n := n1) (m := n2) (A := B) (B := C) (c := d) (c' := f) w)
 rw [decide_eq_true hs] at SM
 obtain ⟨hs1, hs2⟩ := hs
 have FT := Ho.mk (fun (w : World) => dFits (k := 1) (n := n) w (.inl rfl) (by omega))
 rw [hok] at FT
 have hl2 : ¬ (64 : Int) < (n : Int) := by omega
 obtain ⟨X6, hX6⟩ : ∃ Z, Z = binsRe X := ⟨_, rfl⟩
 obtain ⟨Y6, hY6⟩ : ∃ Z, Z = binsIm X := ⟨_, rfl⟩
 have EB := Ho.mk (show X6 = binsRe X ∧ Y6 = binsIm X ∧ false = okR X.length from ⟨hX6, hY6, by rw [hX]; exact hok.symm⟩)
 obtain ⟨P, hP⟩ : ∃ Q, Q = pkR Y Z := ⟨_, rfl⟩
 have EP := Ho.mk (show P = pkR Y Z ∧ false = okK Y Z from ⟨hP, hok2.symm⟩)
 have P0 := Ho.mk (show P = [] by rw [hP]; unfold pkR; rw [hok2]; rfl)
 clear T hx hy hz hX hY hZ hok hok2 hX6 hY6 hP
 go_enter Tryz.func9, Tryz.ntmps9
 go_wp2_with fail
 have BV := Ho.mk (Blk.new w [.slice B n1 d, .slice C n2 f] 24)
 have g1 := Ho.mk ((Bel.refl w).alloc (.cells #[.slice B n1 d, .slice C n2 f] 24))
 generalize w.alloc (.cells #[.slice B n1 d, .slice C n2 f] 24) = v2 at *
 have C3 := Ho.mk (head14 v2 (TT.out.bel g1.out))
 (with_reducible refine C3.out.mono ?_); rintro e v4 ⟨rfl, b5⟩
 have b5H := Ho.mk b5
 clear C3 b5
 have y6 := ((BV.out.bel b5H.out)).cell (i := 0) rfl
 have y7 := ((BV.out.bel b5H.out)).cell (i := 1) rfl
 go_wp2_with fail
 have C8 := Ho.mk (SM.out v4)
 (with_reducible refine C8.out.mono ?_); rintro e v9 ⟨rfl, b10⟩
 have b10H := Ho.mk b10
 clear C8 b10
 clear y6 y7
 go_wp2_with fail
 have C11 := Ho.mk (pBins (TT.out.bel ((g1.out.trans b5H.out).trans b10H.out)) (HX.out.bel ((g1.out.trans b5H.out).trans b10H.out)) (by have := HXL.out; omega) EB.out.1 EB.out.2.1 EB.out.2.2)
 (with_reducible refine C11.out.mono ?_); rintro e v12 ⟨Q6, cr, S6, ci, rfl, t6, b13⟩
 have b13H := Ho.mk b13
 have T6 := Ho.mk t6
 clear C11 b13 t6
 go_upto_region 5 with fail
 have B6 := Ho.mk (Blk.new v12 [.slice Q6 X6.length cr, .slice S6 Y6.length ci] 24)
 have g14 := Ho.mk ((Bel.refl v12).alloc (.cells #[.slice Q6 X6.length cr, .slice S6 Y6.length ci] 24))
 generalize v12.alloc (.cells #[.slice Q6 X6.length cr, .slice S6 Y6.length ci] 24) = v15 at *
 go_wp2_with fail
 have C16 := Ho.mk (FT.out v15)
 (with_reducible refine C16.out.mono ?_); rintro e v17 ⟨rfl, b18⟩
 have b18H := Ho.mk b18
 clear C16 b18
 have y19 := ((BV.out.bel ((((b5H.out.trans b10H.out).trans b13H.out).trans g14.out).trans b18H.out))).cell (i := 0) rfl
 have y20 := ((BV.out.bel ((((b5H.out.trans b10H.out).trans b13H.out).trans g14.out).trans b18H.out))).cell (i := 1) rfl
 go_wp2_with fail
 have C21 := Ho.mk (pPack (TT.out.bel (((((g1.out.trans b5H.out).trans b10H.out).trans b13H.out).trans g14.out).trans b18H.out)) (HY.out.bel (((((g1.out.trans b5H.out).trans b10H.out).trans b13H.out).trans g14.out).trans b18H.out)) (HZ.out.bel (((((g1.out.trans b5H.out).trans b10H.out).trans b13H.out).trans g14.out).trans b18H.out)) (by have := HYL.out; omega) (by have := HZL.out; omega) EP.out.1 EP.out.2)
 (with_reducible refine C21.out.mono ?_); rintro e v22 ⟨Q8, c8, rfl, t8, b23⟩
 have b23H := Ho.mk b23
 have T8 := Ho.mk t8
 clear C21 b23 t8
 clear y19 y20
 rw [P0.out]
 simp only [List.length_nil]
 go_wp2
 go_ret
 exact ⟨rfl, ((((((g1.out.trans b5H.out).trans b10H.out).trans b13H.out).trans g14.out).trans b18H.out).trans b23H.out)⟩
theorem bins14NY {A B C : Option Addr} {c d f n n1 n2 : Nat} {X Y Z : List Nat} (w : World) (T : Tab w) (hx : In w (.slice A n c) X) (hy : In w (.slice B n1 d) Y) (hz : In w (.slice C n2 f) Z) (hX : X.length = n) (hY : Y.length = n1) (hZ : Z.length = n2) (hl : n ≤ 64) (hs : n1 ≤ 64 ∧ n2 ≤ 64) (hok : okR n = false) (hok2 : okK Y Z = true) : Calls Tryz.prog 9 #[.slice A n c, .agg #[.slice B n1 d, .slice C n2 f]] w (fun e w' => e = .returned (.bool true) ∧ Bel w w') := by
 have TT := Ho.mk T
 have HX := Ho.mk hx
 have HY := Ho.mk hy
 have HZ := Ho.mk hz
 have HXL := Ho.mk hX
 have HYL := Ho.mk hY
 have HZL := Ho.mk hZ
 have SM := Ho.mk (fun w => dSmall (n := n1) (m := n2) (A := B) (B := C) (c := d) (c' := f) w)
 rw [decide_eq_true hs] at SM
 obtain ⟨hs1, hs2⟩ := hs
 have FT := Ho.mk (fun (w : World) => dFits (k := 1) (n := n) w (.inl rfl) (by omega))
 rw [hok] at FT
 have hl2 : ¬ (64 : Int) < (n : Int) := by omega
 obtain ⟨X6, hX6⟩ : ∃ Z, Z = binsRe X := ⟨_, rfl⟩
 obtain ⟨Y6, hY6⟩ : ∃ Z, Z = binsIm X := ⟨_, rfl⟩
 have EB := Ho.mk (show X6 = binsRe X ∧ Y6 = binsIm X ∧ false = okR X.length from ⟨hX6, hY6, by rw [hX]; exact hok.symm⟩)
 obtain ⟨P, hP⟩ : ∃ Q, Q = pkR Y Z := ⟨_, rfl⟩
 have EP := Ho.mk (show P = pkR Y Z ∧ true = okK Y Z from ⟨hP, hok2.symm⟩)
 have BP := Ho.mk (show Y = binsRe P ∧ Z = binsIm P ∧ true = okR P.length ∧ P.length ≤ 128 by obtain ⟨a, b, c, d⟩ := bins_pack (by omega) hok2; rw [hP]; exact ⟨a.symm, b.symm, c.symm, d⟩)
 clear T hx hy hz hX hY hZ hok hok2 hX6 hY6 hP
 go_enter Tryz.func9, Tryz.ntmps9
 go_wp2_with fail
 have BV := Ho.mk (Blk.new w [.slice B n1 d, .slice C n2 f] 24)
 have g1 := Ho.mk ((Bel.refl w).alloc (.cells #[.slice B n1 d, .slice C n2 f] 24))
 generalize w.alloc (.cells #[.slice B n1 d, .slice C n2 f] 24) = v2 at *
 have C3 := Ho.mk (head14 v2 (TT.out.bel g1.out))
 (with_reducible refine C3.out.mono ?_); rintro e v4 ⟨rfl, b5⟩
 have b5H := Ho.mk b5
 clear C3 b5
 have y6 := ((BV.out.bel b5H.out)).cell (i := 0) rfl
 have y7 := ((BV.out.bel b5H.out)).cell (i := 1) rfl
 go_wp2_with fail
 have C8 := Ho.mk (SM.out v4)
 (with_reducible refine C8.out.mono ?_); rintro e v9 ⟨rfl, b10⟩
 have b10H := Ho.mk b10
 clear C8 b10
 clear y6 y7
 go_wp2_with fail
 have C11 := Ho.mk (pBins (TT.out.bel ((g1.out.trans b5H.out).trans b10H.out)) (HX.out.bel ((g1.out.trans b5H.out).trans b10H.out)) (by have := HXL.out; omega) EB.out.1 EB.out.2.1 EB.out.2.2)
 (with_reducible refine C11.out.mono ?_); rintro e v12 ⟨Q6, cr, S6, ci, rfl, t6, b13⟩
 have b13H := Ho.mk b13
 have T6 := Ho.mk t6
 clear C11 b13 t6
 go_upto_region 5 with fail
 have B6 := Ho.mk (Blk.new v12 [.slice Q6 X6.length cr, .slice S6 Y6.length ci] 24)
 have g14 := Ho.mk ((Bel.refl v12).alloc (.cells #[.slice Q6 X6.length cr, .slice S6 Y6.length ci] 24))
 generalize v12.alloc (.cells #[.slice Q6 X6.length cr, .slice S6 Y6.length ci] 24) = v15 at *
 go_wp2_with fail
 have C16 := Ho.mk (FT.out v15)
 (with_reducible refine C16.out.mono ?_); rintro e v17 ⟨rfl, b18⟩
 have b18H := Ho.mk b18
 clear C16 b18
 have y19 := ((BV.out.bel ((((b5H.out.trans b10H.out).trans b13H.out).trans g14.out).trans b18H.out))).cell (i := 0) rfl
 have y20 := ((BV.out.bel ((((b5H.out.trans b10H.out).trans b13H.out).trans g14.out).trans b18H.out))).cell (i := 1) rfl
 go_wp2_with fail
 have C21 := Ho.mk (pPack (TT.out.bel (((((g1.out.trans b5H.out).trans b10H.out).trans b13H.out).trans g14.out).trans b18H.out)) (HY.out.bel (((((g1.out.trans b5H.out).trans b10H.out).trans b13H.out).trans g14.out).trans b18H.out)) (HZ.out.bel (((((g1.out.trans b5H.out).trans b10H.out).trans b13H.out).trans g14.out).trans b18H.out)) (by have := HYL.out; omega) (by have := HZL.out; omega) EP.out.1 EP.out.2)
 (with_reducible refine C21.out.mono ?_); rintro e v22 ⟨Q8, c8, rfl, t8, b23⟩
 have b23H := Ho.mk b23
 have T8 := Ho.mk t8
 clear C21 b23 t8
 clear y19 y20
 go_wp2_with fail
 have C24 := Ho.mk (pBins (TT.out.bel ((((((g1.out.trans b5H.out).trans b10H.out).trans b13H.out).trans g14.out).trans b18H.out).trans b23H.out)) (inn T8.out (by have := BP.out.2.2.2; omega)) BP.out.2.2.2 BP.out.1 BP.out.2.1 BP.out.2.2.1)
 (with_reducible refine C24.out.mono ?_); rintro e v25 ⟨Q9, c9, S9, d9, rfl, t9, b26⟩
 have b26H := Ho.mk b26
 have T9 := Ho.mk t9
 clear C24 b26 t9
 rw [HYL.out, HZL.out]
 go_upto_region 15 with fail
 have B9 := Ho.mk (Blk.new v25 [.slice Q9 n1 c9, .slice S9 n2 d9] 24)
 have g27 := Ho.mk ((Bel.refl v25).alloc (.cells #[.slice Q9 n1 c9, .slice S9 n2 d9] 24))
 generalize v25.alloc (.cells #[.slice Q9 n1 c9, .slice S9 n2 d9] 24) = v28 at *
 have y29 := (B9.out).cell (i := 0) rfl
 have y30 := (B9.out).cell (i := 1) rfl
 have y31 := ((BV.out.bel (((((((b5H.out.trans b10H.out).trans b13H.out).trans g14.out).trans b18H.out).trans b23H.out).trans b26H.out).trans g27.out))).cell (i := 0) rfl
 have y32 := ((BV.out.bel (((((((b5H.out.trans b10H.out).trans b13H.out).trans g14.out).trans b18H.out).trans b23H.out).trans b26H.out).trans g27.out))).cell (i := 1) rfl
 go_wp2_with fail
 have C33 := Ho.mk (pSame (z := true) (by have q := inn (T9.out.bel g27.out).one (by have := HYL.out; omega); rw [HYL.out] at q; exact q) (by have q := inn (T9.out.bel g27.out).two (by have := HZL.out; omega); rw [HZL.out] at q; exact q) (HY.out.bel ((((((((g1.out.trans b5H.out).trans b10H.out).trans b13H.out).trans g14.out).trans b18H.out).trans b23H.out).trans b26H.out).trans g27.out)) (HZ.out.bel ((((((((g1.out.trans b5H.out).trans b10H.out).trans b13H.out).trans g14.out).trans b18H.out).trans b23H.out).trans b26H.out).trans g27.out)) (by have := HYL.out; omega) (by have := HZL.out; omega) (by have := HYL.out; omega) (by have := HZL.out; omega) (by simp))
 (with_reducible refine C33.out.mono ?_); rintro e v34 ⟨rfl, b35⟩
 have b35H := Ho.mk b35
 clear C33 b35
 clear y29 y30 y31 y32
 go_wp2
 go_ret
 exact ⟨rfl, (((((((((g1.out.trans b5H.out).trans b10H.out).trans b13H.out).trans g14.out).trans b18H.out).trans b23H.out).trans b26H.out).trans g27.out).trans b35H.out)⟩
theorem bins14YN {A B C : Option Addr} {c d f n n1 n2 : Nat} {X Y Z : List Nat} (w : World) (T : Tab w) (hx : In w (.slice A n c) X) (hy : In w (.slice B n1 d) Y) (hz : In w (.slice C n2 f) Z) (hX : X.length = n) (hY : Y.length = n1) (hZ : Z.length = n2) (hl : n ≤ 64) (hs : n1 ≤ 64 ∧ n2 ≤ 64) (hok : okR n = true) (hok2 : okK Y Z = false) : Calls Tryz.prog 9 #[.slice A n c, .agg #[.slice B n1 d, .slice C n2 f]] w (fun e w' => e = .returned (.bool true) ∧ Bel w w') := by
 have TT := Ho.mk T
 have HX := Ho.mk hx
 have HY := Ho.mk hy
 have HZ := Ho.mk hz
 have HXL := Ho.mk hX
 have HYL := Ho.mk hY
 have HZL := Ho.mk hZ
 have SM := Ho.mk (fun w => dSmall (n := n1) (m := n2) (A := B) (B := C) (c := d) (c' := f) w)
 rw [decide_eq_true hs] at SM
 obtain ⟨hs1, hs2⟩ := hs
 have FT := Ho.mk (fun (w : World) => dFits (k := 1) (n := n) w (.inl rfl) (by omega))
 rw [hok] at FT
 have hl2 : ¬ (64 : Int) < (n : Int) := by omega
 obtain ⟨X6, hX6⟩ : ∃ Z, Z = binsRe X := ⟨_, rfl⟩
 obtain ⟨Y6, hY6⟩ : ∃ Z, Z = binsIm X := ⟨_, rfl⟩
 have EB := Ho.mk (show X6 = binsRe X ∧ Y6 = binsIm X ∧ true = okR X.length from ⟨hX6, hY6, by rw [hX]; exact hok.symm⟩)
 obtain ⟨P, hP⟩ : ∃ Q, Q = pkR Y Z := ⟨_, rfl⟩
 have EP := Ho.mk (show P = pkR Y Z ∧ false = okK Y Z from ⟨hP, hok2.symm⟩)
 obtain ⟨h, hh⟩ : ∃ h, h = n / 2 := ⟨_, rfl⟩
 have hn2 : n = 2 * h := by have := ((log_two ⟨n, by omega⟩).2 hok).2; dsimp only at this; omega
 have hh64 : h ≤ 32 := by omega
 have ed : (n : Int).tdiv 2 = (h : Int) := by rw [hn2, Int.tdiv_eq_ediv_of_nonneg (by omega)]; omega
 have hokX : okR X.length = true := by rw [hX]; exact hok
 obtain ⟨k1, k2, k3⟩ := bins_len hokX
 have PB := Ho.mk (show X = pkR X6 Y6 ∧ true = okK X6 Y6 by obtain ⟨a, b⟩ := pack_bins (by omega) hokX; rw [hX6, hY6]; exact ⟨a.symm, b.symm⟩)
 have LX6 := Ho.mk (show X6.length = h + 1 by rw [hX6, k1, hX, hh])
 have LY6 := Ho.mk (show Y6.length = h + 1 by rw [hY6, k2, hX, hh])
 clear k1 k2 k3 hokX hn2 hh
 have P0 := Ho.mk (show P = [] by rw [hP]; unfold pkR; rw [hok2]; rfl)
 clear T hx hy hz hX hY hZ hok hok2 hX6 hY6 hP
 go_enter Tryz.func9, Tryz.ntmps9
 go_wp2_with fail
 have BV := Ho.mk (Blk.new w [.slice B n1 d, .slice C n2 f] 24)
 have g1 := Ho.mk ((Bel.refl w).alloc (.cells #[.slice B n1 d, .slice C n2 f] 24))
 generalize w.alloc (.cells #[.slice B n1 d, .slice C n2 f] 24) = v2 at *
 have C3 := Ho.mk (head14 v2 (TT.out.bel g1.out))
 (with_reducible refine C3.out.mono ?_); rintro e v4 ⟨rfl, b5⟩
 have b5H := Ho.mk b5
 clear C3 b5
 have y6 := ((BV.out.bel b5H.out)).cell (i := 0) rfl
 have y7 := ((BV.out.bel b5H.out)).cell (i := 1) rfl
 go_wp2_with fail
 have C8 := Ho.mk (SM.out v4)
 (with_reducible refine C8.out.mono ?_); rintro e v9 ⟨rfl, b10⟩
 have b10H := Ho.mk b10
 clear C8 b10
 clear y6 y7
 go_wp2_with fail
 have C11 := Ho.mk (pBins (TT.out.bel ((g1.out.trans b5H.out).trans b10H.out)) (HX.out.bel ((g1.out.trans b5H.out).trans b10H.out)) (by have := HXL.out; omega) EB.out.1 EB.out.2.1 EB.out.2.2)
 (with_reducible refine C11.out.mono ?_); rintro e v12 ⟨Q6, cr, S6, ci, rfl, t6, b13⟩
 have b13H := Ho.mk b13
 have T6 := Ho.mk t6
 clear C11 b13 t6
 rw [LX6.out, LY6.out]
 go_upto_region 5 with fail
 have B6 := Ho.mk (Blk.new v12 [.slice Q6 (h + 1) cr, .slice S6 (h + 1) ci] 24)
 have g14 := Ho.mk ((Bel.refl v12).alloc (.cells #[.slice Q6 (h + 1) cr, .slice S6 (h + 1) ci] 24))
 generalize v12.alloc (.cells #[.slice Q6 (h + 1) cr, .slice S6 (h + 1) ci] 24) = v15 at *
 go_wp2_with fail
 have C16 := Ho.mk (FT.out v15)
 (with_reducible refine C16.out.mono ?_); rintro e v17 ⟨rfl, b18⟩
 have b18H := Ho.mk b18
 clear C16 b18
 have y19 := ((B6.out.bel b18H.out)).cell (i := 0) rfl
 have y20 := ((B6.out.bel b18H.out)).cell (i := 1) rfl
 go_wp2_with fail
 have C21 := Ho.mk (pPack (TT.out.bel (((((g1.out.trans b5H.out).trans b10H.out).trans b13H.out).trans g14.out).trans b18H.out)) (by have q := inn (T6.out.bel (g14.out.trans b18H.out)).one (by rw [LX6.out]; omega); rw [LX6.out] at q; exact q) (by have q := inn (T6.out.bel (g14.out.trans b18H.out)).two (by rw [LY6.out]; omega); rw [LY6.out] at q; exact q) (by rw [LX6.out]; omega) (by rw [LY6.out]; omega) PB.out.1 PB.out.2)
 (with_reducible refine C21.out.mono ?_); rintro e v22 ⟨Q7, c7, rfl, t7, b23⟩
 have b23H := Ho.mk b23
 have T7 := Ho.mk t7
 clear C21 b23 t7
 rw [HXL.out] at T7 ⊢
 clear y19 y20
 have y24 := ((B6.out.bel (b18H.out.trans b23H.out))).cell (i := 0) rfl
 have y25 := ((B6.out.bel (b18H.out.trans b23H.out))).cell (i := 1) rfl
 go_wp2_with fail
 have C26 := Ho.mk (pSameRow (z := true) (by have q := inn T7.out (by have := HXL.out; omega); exact q) (HX.out.bel ((((((g1.out.trans b5H.out).trans b10H.out).trans b13H.out).trans g14.out).trans b18H.out).trans b23H.out)) (by have := HXL.out; omega) (by have := HXL.out; omega) (by simp))
 (with_reducible refine C26.out.mono ?_); rintro e v27 ⟨rfl, b28⟩
 have b28H := Ho.mk b28
 clear C26 b28
 clear y24 y25
 have y29 := ((B6.out.bel ((b18H.out.trans b23H.out).trans b28H.out))).cell (i := 0) rfl
 have y30 := ((B6.out.bel ((b18H.out.trans b23H.out).trans b28H.out))).cell (i := 1) rfl
 have y31 := ((BV.out.bel ((((((b5H.out.trans b10H.out).trans b13H.out).trans g14.out).trans b18H.out).trans b23H.out).trans b28H.out))).cell (i := 0) rfl
 have y32 := ((BV.out.bel ((((((b5H.out.trans b10H.out).trans b13H.out).trans g14.out).trans b18H.out).trans b23H.out).trans b28H.out))).cell (i := 1) rfl
 go_wp2_with fail
 have C33 := Ho.mk (pPack (TT.out.bel (((((((g1.out.trans b5H.out).trans b10H.out).trans b13H.out).trans g14.out).trans b18H.out).trans b23H.out).trans b28H.out)) (HY.out.bel (((((((g1.out.trans b5H.out).trans b10H.out).trans b13H.out).trans g14.out).trans b18H.out).trans b23H.out).trans b28H.out)) (HZ.out.bel (((((((g1.out.trans b5H.out).trans b10H.out).trans b13H.out).trans g14.out).trans b18H.out).trans b23H.out).trans b28H.out)) (by have := HYL.out; omega) (by have := HZL.out; omega) EP.out.1 EP.out.2)
 (with_reducible refine C33.out.mono ?_); rintro e v34 ⟨Q8, c8, rfl, t8, b35⟩
 have b35H := Ho.mk b35
 have T8 := Ho.mk t8
 clear C33 b35 t8
 clear y29 y30 y31 y32
 rw [P0.out]
 simp only [List.length_nil]
 go_wp2
 go_ret
 exact ⟨rfl, ((((((((g1.out.trans b5H.out).trans b10H.out).trans b13H.out).trans g14.out).trans b18H.out).trans b23H.out).trans b28H.out).trans b35H.out)⟩
theorem bins14YY {A B C : Option Addr} {c d f n n1 n2 : Nat} {X Y Z : List Nat} (w : World) (T : Tab w) (hx : In w (.slice A n c) X) (hy : In w (.slice B n1 d) Y) (hz : In w (.slice C n2 f) Z) (hX : X.length = n) (hY : Y.length = n1) (hZ : Z.length = n2) (hl : n ≤ 64) (hs : n1 ≤ 64 ∧ n2 ≤ 64) (hok : okR n = true) (hok2 : okK Y Z = true) : Calls Tryz.prog 9 #[.slice A n c, .agg #[.slice B n1 d, .slice C n2 f]] w (fun e w' => e = .returned (.bool true) ∧ Bel w w') := by
 have TT := Ho.mk T
 have HX := Ho.mk hx
 have HY := Ho.mk hy
 have HZ := Ho.mk hz
 have HXL := Ho.mk hX
 have HYL := Ho.mk hY
 have HZL := Ho.mk hZ
 have SM := Ho.mk (fun w => dSmall (n := n1) (m := n2) (A := B) (B := C) (c := d) (c' := f) w)
 rw [decide_eq_true hs] at SM
 obtain ⟨hs1, hs2⟩ := hs
 have FT := Ho.mk (fun (w : World) => dFits (k := 1) (n := n) w (.inl rfl) (by omega))
 rw [hok] at FT
 have hl2 : ¬ (64 : Int) < (n : Int) := by omega
 obtain ⟨X6, hX6⟩ : ∃ Z, Z = binsRe X := ⟨_, rfl⟩
 obtain ⟨Y6, hY6⟩ : ∃ Z, Z = binsIm X := ⟨_, rfl⟩
 have EB := Ho.mk (show X6 = binsRe X ∧ Y6 = binsIm X ∧ true = okR X.length from ⟨hX6, hY6, by rw [hX]; exact hok.symm⟩)
 obtain ⟨P, hP⟩ : ∃ Q, Q = pkR Y Z := ⟨_, rfl⟩
 have EP := Ho.mk (show P = pkR Y Z ∧ true = okK Y Z from ⟨hP, hok2.symm⟩)
 obtain ⟨h, hh⟩ : ∃ h, h = n / 2 := ⟨_, rfl⟩
 have hn2 : n = 2 * h := by have := ((log_two ⟨n, by omega⟩).2 hok).2; dsimp only at this; omega
 have hh64 : h ≤ 32 := by omega
 have ed : (n : Int).tdiv 2 = (h : Int) := by rw [hn2, Int.tdiv_eq_ediv_of_nonneg (by omega)]; omega
 have hokX : okR X.length = true := by rw [hX]; exact hok
 obtain ⟨k1, k2, k3⟩ := bins_len hokX
 have PB := Ho.mk (show X = pkR X6 Y6 ∧ true = okK X6 Y6 by obtain ⟨a, b⟩ := pack_bins (by omega) hokX; rw [hX6, hY6]; exact ⟨a.symm, b.symm⟩)
 have LX6 := Ho.mk (show X6.length = h + 1 by rw [hX6, k1, hX, hh])
 have LY6 := Ho.mk (show Y6.length = h + 1 by rw [hY6, k2, hX, hh])
 clear k1 k2 k3 hokX hn2 hh
 have BP := Ho.mk (show Y = binsRe P ∧ Z = binsIm P ∧ true = okR P.length ∧ P.length ≤ 128 by obtain ⟨a, b, c, d⟩ := bins_pack (by omega) hok2; rw [hP]; exact ⟨a.symm, b.symm, c.symm, d⟩)
 clear T hx hy hz hX hY hZ hok hok2 hX6 hY6 hP
 go_enter Tryz.func9, Tryz.ntmps9
 go_wp2_with fail
 have BV := Ho.mk (Blk.new w [.slice B n1 d, .slice C n2 f] 24)
 have g1 := Ho.mk ((Bel.refl w).alloc (.cells #[.slice B n1 d, .slice C n2 f] 24))
 generalize w.alloc (.cells #[.slice B n1 d, .slice C n2 f] 24) = v2 at *
 have C3 := Ho.mk (head14 v2 (TT.out.bel g1.out))
 (with_reducible refine C3.out.mono ?_); rintro e v4 ⟨rfl, b5⟩
 have b5H := Ho.mk b5
 clear C3 b5
 have y6 := ((BV.out.bel b5H.out)).cell (i := 0) rfl
 have y7 := ((BV.out.bel b5H.out)).cell (i := 1) rfl
 go_wp2_with fail
 have C8 := Ho.mk (SM.out v4)
 (with_reducible refine C8.out.mono ?_); rintro e v9 ⟨rfl, b10⟩
 have b10H := Ho.mk b10
 clear C8 b10
 clear y6 y7
 go_wp2_with fail
 have C11 := Ho.mk (pBins (TT.out.bel ((g1.out.trans b5H.out).trans b10H.out)) (HX.out.bel ((g1.out.trans b5H.out).trans b10H.out)) (by have := HXL.out; omega) EB.out.1 EB.out.2.1 EB.out.2.2)
 (with_reducible refine C11.out.mono ?_); rintro e v12 ⟨Q6, cr, S6, ci, rfl, t6, b13⟩
 have b13H := Ho.mk b13
 have T6 := Ho.mk t6
 clear C11 b13 t6
 rw [LX6.out, LY6.out]
 go_upto_region 5 with fail
 have B6 := Ho.mk (Blk.new v12 [.slice Q6 (h + 1) cr, .slice S6 (h + 1) ci] 24)
 have g14 := Ho.mk ((Bel.refl v12).alloc (.cells #[.slice Q6 (h + 1) cr, .slice S6 (h + 1) ci] 24))
 generalize v12.alloc (.cells #[.slice Q6 (h + 1) cr, .slice S6 (h + 1) ci] 24) = v15 at *
 go_wp2_with fail
 have C16 := Ho.mk (FT.out v15)
 (with_reducible refine C16.out.mono ?_); rintro e v17 ⟨rfl, b18⟩
 have b18H := Ho.mk b18
 clear C16 b18
 have y19 := ((B6.out.bel b18H.out)).cell (i := 0) rfl
 have y20 := ((B6.out.bel b18H.out)).cell (i := 1) rfl
 go_wp2_with fail
 have C21 := Ho.mk (pPack (TT.out.bel (((((g1.out.trans b5H.out).trans b10H.out).trans b13H.out).trans g14.out).trans b18H.out)) (by have q := inn (T6.out.bel (g14.out.trans b18H.out)).one (by rw [LX6.out]; omega); rw [LX6.out] at q; exact q) (by have q := inn (T6.out.bel (g14.out.trans b18H.out)).two (by rw [LY6.out]; omega); rw [LY6.out] at q; exact q) (by rw [LX6.out]; omega) (by rw [LY6.out]; omega) PB.out.1 PB.out.2)
 (with_reducible refine C21.out.mono ?_); rintro e v22 ⟨Q7, c7, rfl, t7, b23⟩
 have b23H := Ho.mk b23
 have T7 := Ho.mk t7
 clear C21 b23 t7
 rw [HXL.out] at T7 ⊢
 clear y19 y20
 have y24 := ((B6.out.bel (b18H.out.trans b23H.out))).cell (i := 0) rfl
 have y25 := ((B6.out.bel (b18H.out.trans b23H.out))).cell (i := 1) rfl
 go_wp2_with fail
 have C26 := Ho.mk (pSameRow (z := true) (by have q := inn T7.out (by have := HXL.out; omega); exact q) (HX.out.bel ((((((g1.out.trans b5H.out).trans b10H.out).trans b13H.out).trans g14.out).trans b18H.out).trans b23H.out)) (by have := HXL.out; omega) (by have := HXL.out; omega) (by simp))
 (with_reducible refine C26.out.mono ?_); rintro e v27 ⟨rfl, b28⟩
 have b28H := Ho.mk b28
 clear C26 b28
 clear y24 y25
 have y29 := ((B6.out.bel ((b18H.out.trans b23H.out).trans b28H.out))).cell (i := 0) rfl
 have y30 := ((B6.out.bel ((b18H.out.trans b23H.out).trans b28H.out))).cell (i := 1) rfl
 have y31 := ((BV.out.bel ((((((b5H.out.trans b10H.out).trans b13H.out).trans g14.out).trans b18H.out).trans b23H.out).trans b28H.out))).cell (i := 0) rfl
 have y32 := ((BV.out.bel ((((((b5H.out.trans b10H.out).trans b13H.out).trans g14.out).trans b18H.out).trans b23H.out).trans b28H.out))).cell (i := 1) rfl
 go_wp2_with fail
 have C33 := Ho.mk (pPack (TT.out.bel (((((((g1.out.trans b5H.out).trans b10H.out).trans b13H.out).trans g14.out).trans b18H.out).trans b23H.out).trans b28H.out)) (HY.out.bel (((((((g1.out.trans b5H.out).trans b10H.out).trans b13H.out).trans g14.out).trans b18H.out).trans b23H.out).trans b28H.out)) (HZ.out.bel (((((((g1.out.trans b5H.out).trans b10H.out).trans b13H.out).trans g14.out).trans b18H.out).trans b23H.out).trans b28H.out)) (by have := HYL.out; omega) (by have := HZL.out; omega) EP.out.1 EP.out.2)
 (with_reducible refine C33.out.mono ?_); rintro e v34 ⟨Q8, c8, rfl, t8, b35⟩
 have b35H := Ho.mk b35
 have T8 := Ho.mk t8
 clear C33 b35 t8
 clear y29 y30 y31 y32
 go_wp2_with fail
 have C36 := Ho.mk (pBins (TT.out.bel ((((((((g1.out.trans b5H.out).trans b10H.out).trans b13H.out).trans g14.out).trans b18H.out).trans b23H.out).trans b28H.out).trans b35H.out)) (inn T8.out (by have := BP.out.2.2.2; omega)) BP.out.2.2.2 BP.out.1 BP.out.2.1 BP.out.2.2.1)
 (with_reducible refine C36.out.mono ?_); rintro e v37 ⟨Q9, c9, S9, d9, rfl, t9, b38⟩
 have b38H := Ho.mk b38
 have T9 := Ho.mk t9
 clear C36 b38 t9
 rw [HYL.out, HZL.out]
 go_upto_region 15 with fail
 have B9 := Ho.mk (Blk.new v37 [.slice Q9 n1 c9, .slice S9 n2 d9] 24)
 have g39 := Ho.mk ((Bel.refl v37).alloc (.cells #[.slice Q9 n1 c9, .slice S9 n2 d9] 24))
 generalize v37.alloc (.cells #[.slice Q9 n1 c9, .slice S9 n2 d9] 24) = v40 at *
 have y41 := (B9.out).cell (i := 0) rfl
 have y42 := (B9.out).cell (i := 1) rfl
 have y43 := ((BV.out.bel (((((((((b5H.out.trans b10H.out).trans b13H.out).trans g14.out).trans b18H.out).trans b23H.out).trans b28H.out).trans b35H.out).trans b38H.out).trans g39.out))).cell (i := 0) rfl
 have y44 := ((BV.out.bel (((((((((b5H.out.trans b10H.out).trans b13H.out).trans g14.out).trans b18H.out).trans b23H.out).trans b28H.out).trans b35H.out).trans b38H.out).trans g39.out))).cell (i := 1) rfl
 go_wp2_with fail
 have C45 := Ho.mk (pSame (z := true) (by have q := inn (T9.out.bel g39.out).one (by have := HYL.out; omega); rw [HYL.out] at q; exact q) (by have q := inn (T9.out.bel g39.out).two (by have := HZL.out; omega); rw [HZL.out] at q; exact q) (HY.out.bel ((((((((((g1.out.trans b5H.out).trans b10H.out).trans b13H.out).trans g14.out).trans b18H.out).trans b23H.out).trans b28H.out).trans b35H.out).trans b38H.out).trans g39.out)) (HZ.out.bel ((((((((((g1.out.trans b5H.out).trans b10H.out).trans b13H.out).trans g14.out).trans b18H.out).trans b23H.out).trans b28H.out).trans b35H.out).trans b38H.out).trans g39.out)) (by have := HYL.out; omega) (by have := HZL.out; omega) (by have := HYL.out; omega) (by have := HZL.out; omega) (by simp))
 (with_reducible refine C45.out.mono ?_); rintro e v46 ⟨rfl, b47⟩
 have b47H := Ho.mk b47
 clear C45 b47
 clear y41 y42 y43 y44
 go_wp2
 go_ret
 exact ⟨rfl, (((((((((((g1.out.trans b5H.out).trans b10H.out).trans b13H.out).trans g14.out).trans b18H.out).trans b23H.out).trans b28H.out).trans b35H.out).trans b38H.out).trans g39.out).trans b47H.out)⟩
theorem bins14_door (A : Option Addr) (c : Nat) (X : List Nat) (B : Option Addr) (d : Nat) (Y : List Nat) (C : Option Addr) (f : Nat) (Z : List Nat) (w : World) (T : Tab w) (hx : In w (.slice A X.length c) X) (hy : In w (.slice B Y.length d) Y) (hz : In w (.slice C Z.length f) Z) :
  Calls Tryz.prog 9 #[.slice A X.length c, .agg #[.slice B Y.length d, .slice C Z.length f]] w (fun e w' => e = .returned (.bool true) ∧ Bel w w') := by
 by_cases hl : X.length ≤ 64
 ·by_cases hs : Y.length ≤ 64 ∧ Z.length ≤ 64
  ·cases h1 : okR X.length <;> cases h2 : okK Y Z
   ·exact bins14NN w T hx hy hz rfl rfl rfl hl hs h1 h2
   ·exact bins14NY w T hx hy hz rfl rfl rfl hl hs h1 h2
   ·exact bins14YN w T hx hy hz rfl rfl rfl hl hs h1 h2
   ·exact bins14YY w T hx hy hz rfl rfl rfl hl hs h1 h2
  ·exact bins14S w T hx hy hz rfl rfl rfl hl hs
 ·exact bins14L w T hx hy hz rfl rfl rfl (by omega)
end Lh
end Go.Proofs.YtnbdoidccacdnaaGreatDoor
