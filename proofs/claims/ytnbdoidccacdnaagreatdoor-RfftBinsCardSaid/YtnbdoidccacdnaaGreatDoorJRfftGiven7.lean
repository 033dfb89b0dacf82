/-
  Joined, of what this claim leans on: Y5, Y6, Y7, Pj, Pk, Pm, Y8, Lv, Le, Lf, Pf, Lg.
-/
import Derived.Deep.AppendLies
import Derived.Deep.Slices
import Derived.ChangeSame
import Derived.Test.YtnbdoidccacdnaaGreatDoorJRfftGiven6
set_option linter.unusedVariables false
set_option linter.unusedSimpArgs false
set_option maxRecDepth 100000
set_option maxHeartbeats 16000000
namespace Go.Proofs.YtnbdoidccacdnaaGreatDoor
namespace Y5
open Ieee Go Go.RowKit Go.Proofs Go.Proofs.YtnbdoidccacdnaaGreatDoor Ow Dt Gp I0 U0 W0 S4 S6 P0 M0 M1 M3 W4 W5 V2 P4 Y3 Yh Y4 Y1 P8 Pc
open Go.Proofs.YtnbdoidccacdnaaGreatDoor.V1 (NI St ni_same ni_loop St.refl St.of_bel blk_keep ni_blk put_st)
open Go.Proofs.YtnbdoidccacdnaaGreatDoor.C6 (leaveAny)
open Go.Proofs.YtnbdoidccacdnaaGreatDoor.Pg (In)
attribute [local go_sem ↓] Go.wp_at_zero Go.wp_at_succ
attribute [local go_sem] Oper.semAt_some
theorem log_pow : ∀ p : Fin 8, logI (2 ^ p.val) = (p.val : Int) := by decide +kernel
theorem logI_pow {n p : Nat} (h : n = 2 ^ p) (hp : p ≤ 7) : logI n = (p : Int) := by subst h; exact log_pow ⟨p, by omega⟩
theorem fk_zero {w : World} {b N : Nat} (K : Blk w b 50 (List.replicate N (.float .f64 0))) : Fk w b (List.replicate N 0) :=
 ⟨_, K, by simp, fun j v hv => by
  rw [List.getElem?_replicate] at hv
  split at hv
  ·rename_i h
   cases hv
   exact ⟨0, rfl, by decide, by simp [nthN, List.getD_eq_getElem?_getD, List.getElem?_replicate, h, cn_zero]⟩
  ·cases hv⟩
def upTo (f : Nat → Nat) (n k : Nat) : List Nat := (List.range n).map fun i => if i < k then f i else 0
theorem upTo_len (f : Nat → Nat) (n k : Nat) : (upTo f n k).length = n := by simp [upTo]
theorem upTo_zero (f : Nat → Nat) (n : Nat) : upTo f n 0 = List.replicate n 0 := by
 apply List.ext_getElem (by simp [upTo])
 intro i h1 h2
 simp [upTo]
theorem upTo_all (f : Nat → Nat) (n : Nat) : upTo f n n = (List.range n).map f := by
 apply List.ext_getElem (by simp [upTo])
 intro i h1 h2
 have : i < n := by simpa [upTo] using h1
 simp [upTo, this]
theorem upTo_two (f : Nat → Nat) {n k : Nat} (h : 2 * k + 1 < n) {a b : Nat} (ha : a = f (2 * k)) (hb : b = f (2 * k + 1)) : ((upTo f n (2 * k)).set (2 * k) a).set (2 * k + 1) b = upTo f n (2 * (k + 1)) := by
 subst ha; subst hb
 apply List.ext_getElem (by simp [upTo])
 intro i h1 h2
 simp only [upTo, List.getElem_set, List.getElem_map, List.getElem_range]
 by_cases e1 : 2 * k + 1 = i
 ·subst e1; rw [if_pos rfl, if_pos (by omega)]
 ·rw [if_neg e1]
  by_cases e2 : 2 * k = i
  ·subst e2; rw [if_pos rfl, if_pos (by omega)]
  ·rw [if_neg e2]
   by_cases h3 : i < 2 * k
   ·rw [if_pos h3, if_pos (by omega)]
   ·rw [if_neg h3, if_neg (by omega)]
def frm (u : Nat → Value) (pz po pp pw pk px : Value) : Act := { tmps := #[u 0, u 1, u 2, u 3, u 4, pz, po, pp, u 8, u 9, u 10, u 11, pw, pk, px, u 15, u 16, u 17, u 18, u 19, u 20, u 21, u 22, u 23, u 24, u 25, u 26, u 27, u 28, u 29, u 30, u 31, u 32, u 33, u 34, u 35, u 36, u 37, u 38, u 39, u 40, u 41, u 42, u 43, u 44, u 45, u 46, u 47, u 48, u 49, u 50, u 51, u 52, u 53, u 54, u 55, u 56, u 57, u 58, u 59, u 60, u 61, u 62, u 63, u 64, u 65, u 66, u 67, u 68, u 69, u 70, u 71, u 72, u 73, u 74, u 75, u 76, u 77, u 78, u 79, u 80, u 81, u 82, u 83, u 84, u 85, u 86, u 87, u 88, u 89, u 90, u 91, u 92, u 93, u 94, u 95, u 96, u 97, u 98, u 99, u 100, u 101, u 102, u 103, u 104, u 105, u 106, u 107, u 108, u 109, u 110, u 111, u 112, u 113, u 114, u 115, u 116, u 117, u 118, u 119, u 120, u 121, u 122, u 123, u 124, u 125, u 126, u 127, u 128, u 129, u 130, u 131, u 132, u 133, u 134, u 135, u 136, u 137, u 138, u 139, u 140], defers := [] }
theorem frm_mk {a : Act} {pz po pp pw pk px : Value} (h : a = frm (fun i => a.tmps.getD i undef) pz po pp pw pk px) : ∃ u, a = frm u pz po pp pw pk px := ⟨_, h⟩
theorem bin_law {wd : Nat × Nat} {xa xb xc xd r1 s1 r2 s2 r3 s3 r4 s4 r5 s5 r6 s6 c5 d5 X0 X1 X2 X3 : Nat} (la : xa < 2 * sgnW) (ld : xd < 2 * sgnW) (ha : cn xa = X0) (hb : cn xb = X1) (hc : cn xc = X2) (hd : cn xd = X3)
  (h1 : cn r1 = fadd (cn xa) (cn xc) ∧ cn s1 = fadd (cn xb) (cn (Op.negFloat .f64 xd))) (h2 : cn r2 = fadd (cn xb) (cn xd) ∧ cn s2 = fadd (cn (Op.negFloat .f64 xa)) (cn xc))
  (h3 : cn r3 = fmul (cn r1) (cn 4602678819172646912) ∧ cn s3 = fmul (cn s1) (cn 4602678819172646912)) (h4 : cn r4 = fmul (cn r2) (cn 4602678819172646912) ∧ cn s4 = fmul (cn s2) (cn 4602678819172646912))
  (hw : cn c5 = wd.1 ∧ cn d5 = wd.2) (h5 : cn r5 = fadd (fmul (cn r4) (cn c5)) (fmul (cn s4) (cn d5)) ∧ cn s5 = fsub (fmul (cn s4) (cn c5)) (fmul (cn r4) (cn d5)))
  (h6 : cn r6 = fadd (cn r3) (cn r5) ∧ cn s6 = fadd (cn s3) (cn s5)) : cn r6 = (binG opsN wd X0 X1 X2 X3).1 ∧ cn s6 = (binG opsN wd X0 X1 X2 X3).2 := by
 have eh : cn 4602678819172646912 = halfW := by decide +kernel
 rw [neg_cn ld] at h1
 rw [neg_cn la] at h2
 rw [eh] at h3 h4
 rw [h6.1, h6.2, h3.1, h3.2, h5.1, h5.2, h4.1, h4.2, h1.1, h1.2, h2.1, h2.2, hw.1, hw.2, ha, hb, hc, hd]
 exact ⟨rfl, rfl⟩
theorem pack_at {p m k : Nat} {Z : List Nat × List Nat} (hk : 1 ≤ k) : packAt opsN (tabW p) m Z (2 * k) = (binG opsN (tabW p k) (nthN Z.1 k) (nthN Z.2 k) (nthN Z.1 (m - k)) (nthN Z.2 (m - k))).1 ∧ packAt opsN (tabW p) m Z (2 * k + 1) = (binG opsN (tabW p k) (nthN Z.1 k) (nthN Z.2 k) (nthN Z.1 (m - k)) (nthN Z.2 (m - k))).2 := by
 unfold packAt
 constructor
 ·rw [if_neg (by omega), if_neg (by omega), if_pos (by omega), show 2 * k / 2 = k by omega]; rfl
 ·rw [if_neg (by omega), if_neg (by omega), if_neg (by omega), show (2 * k + 1) / 2 = k by omega]; rfl
theorem dRfftOk {A : Option Addr} {c p : Nat} {X : List Nat} (w : World) (T : Tab w) (hx : In w (.slice A X.length c) X) (hp : X.length = 2 ^ p) (h1 : 1 ≤ p) (hp7 : p ≤ 7) :
  Calls Tryz.prog 38 #[.slice A X.length c] w fun e w' => ∃ b, e = .returned (.tuple #[.slice (some ⟨b, 0, none⟩) X.length X.length, .int .i64 0]) ∧ Fk w' b (rfftN p X) ∧ w.heap.size ≤ b ∧ Bel w w' := by
 obtain ⟨m, hm⟩ : ∃ m, m = 2 ^ (p - 1) := ⟨_, rfl⟩
 have hn2 : X.length = 2 * m := by rw [hm, ← two_half h1]; exact hp
 have hm1 : 1 ≤ m := by rw [hm]; exact Nat.two_pow_pos _
 have hm0 : 0 < m := hm1
 have hn128 : X.length ≤ 128 := by rw [hp]; exact Nat.le_trans (Nat.pow_le_pow_right (by decide) hp7) (by decide)
 have hm64 : m ≤ 64 := by omega
 have HP := Ho.mk hp
 have HM := Ho.mk hm
 have HN2 := Ho.mk hn2
 have TT := Ho.mk T
 have HX := Ho.mk hx
 have C0 := dLogR (n := X.length) rfl w (by omega) T
 rw [logI_pow hp hp7] at C0
 have C0 := Ho.mk C0
 have C1 := Ho.mk (dEven w hx (by omega))
 have lE : (M2.evenG opsN X).length = m := by rw [M2.evenG_len]; omega
 have lO : (M2.oddG opsN X).length = m := by rw [M2.oddG_len]; omega
 obtain ⟨Ze, hZe⟩ : ∃ Ze, Ze = M2.evenG opsN X := ⟨_, rfl⟩
 obtain ⟨Zo, hZo⟩ : ∃ Zo, Zo = M2.oddG opsN X := ⟨_, rfl⟩
 rw [← hZe] at lE C1
 rw [← hZo] at lO
 have HZ := Ho.mk (And.intro hZe hZo)
 have LE := Ho.mk lE
 have LO := Ho.mk lO
 clear hp hm T hx hZe hZo lE lO hn2
 refine (callsIn_wide (n := 3)).1 ?_
 refine callsIn_of_wp_marks Tryz.func38 rfl trivial ?_ rfl
 simp only [Tryz.ntmps38, List.size_toArray, List.length_cons, List.length_nil, Nat.reduceAdd, Nat.reduceSub, Array.replicate_succ, Array.replicate_zero, List.push_toArray, List.append_toArray, List.nil_append, List.cons_append]
 refine wpIn_wide.2 ?_
 go_wp2_with fail
 (with_reducible refine C0.out.mono ?_); rintro e w0 ⟨rfl, rfl⟩
 clear C0
 go_wp2_with fail
 (with_reducible refine C1.out.mono ?_); rintro e w1 ⟨A1, cE, rfl, g1, b1⟩
 obtain ⟨bE, cq, e, hcE, hcE2, H⟩ := (Hp.nil (Bel.refl w)).rowF b1 (Og.rowF g1.1 g1.2) (by rw [LE.out]; exact hm1)
 rw [LE.out] at e hcE ⊢
 cases e
 replace H := Ho.mk H
 have CE := Ho.mk (And.intro hcE hcE2)
 have C2 := dOdd w1 (HX.out.bel b1) (by omega)
 rw [← HZ.out.2] at C2
 have C2 := Ho.mk C2
 clear C1 g1 b1 hcE hcE2
 go_wp2_with fail
 (with_reducible refine C2.out.mono ?_); rintro e w2 ⟨A1, cO, rfl, g1, b1⟩
 obtain ⟨bO, cq, e, hcO, hcO2, H⟩ := H.out.rowF b1 (Og.rowF g1.1 g1.2) (by rw [LO.out]; exact hm1)
 rw [LO.out] at e hcO ⊢
 cases e
 replace H := Ho.mk H
 have CO := Ho.mk (And.intro hcO hcO2)
 clear C2 g1 b1 hcO hcO2
 go_upto_region 5 with fail
 replace H := Ho.mk (H.out.box [.slice (some ⟨bE, 0, none⟩) m cE, .slice (some ⟨bO, 0, none⟩) m cO] 24)
 generalize w2.alloc (.cells #[.slice (some ⟨bE, 0, none⟩) m cE, .slice (some ⟨bO, 0, none⟩) m cO] 24) = w3 at *
 generalize w2.heap.size = bz at *
 have y0 := (H.out.blk 0 rfl).cell (i := 0) rfl
 have y1 := (H.out.blk 0 rfl).cell (i := 1) rfl
 have C3 := Ho.mk (dInto (p := p - 1) (N := m) w3 (TT.out.bel H.out.bel) (H.out.row 2 rfl) (H.out.row 1 rfl) (H.out.ne 2 1 rfl rfl) HM.out LE.out LO.out (by omega) CE.out.1 CO.out.1 CE.out.2 CO.out.2)
 go_wp2_with fail
 (with_reducible refine C3.out.mono ?_); rintro e w4 ⟨rfl, f1, f2, G⟩
 replace H := Ho.mk (H.out.gr2 2 1 rfl rfl G (by decide) f1 f2)
 simp only [List.set_cons_zero, List.set_cons_succ] at H
 obtain ⟨Z, hZ⟩ : ∃ Z, Z = intoG opsN (bitsG (p - 1)) (p - 1) (tabW (p - 1)) (Ze, Zo) := ⟨_, rfl⟩
 rw [← hZ] at H
 have ZR := Ho.mk (show Z = rfftZ p X by unfold rfftZ intoN; rw [← HZ.out.1, ← HZ.out.2]; exact hZ)
 have ZL := Ho.mk (show Z.1.length = m ∧ Z.2.length = m by rw [hZ]; have := intoN_len (p := p - 1) (st := (Ze, Zo)) (by rw [← HM.out]; exact LE.out) (by rw [← HM.out]; exact LO.out); rw [← HM.out] at this; exact this)
 clear C3 f1 f2 G hZ y0 y1
 go_wp2_with (at_make; refine wpList_mk _ rfl _ _ 97 rfl 50 (.float .f64 0) 8 Tryz.underlying97 infoF rfl X.length rfl rfl (by omega) (by omega) ?_; intro w5 hk5 hb5 hs5)
 replace H := Ho.mk (H.out.new (e := .whole w4.heap.size (List.replicate X.length 0)) hb5 (fk_zero hk5) (Nat.le_refl _))
 clear hk5 hb5
 generalize w4.heap.size = bo at *
 replace H := Ho.mk (H.out.box [.func (.func 80) #[.slice (some ⟨bo, 0, none⟩) X.length X.length] #[]] 98)
 rw [hs5] at H
 clear hs5
 generalize w5.alloc (.cells #[.func (.func 80) #[.slice (some ⟨bo, 0, none⟩) X.length X.length] #[]] 98) = w6 at *
 have ZL1 := ZL.out.1
 have ZL2 := ZL.out.2
 have y0 := (H.out.blk 2 rfl).cell (i := 0) rfl
 have y1 := (H.out.blk 2 rfl).cell (i := 1) rfl
 obtain ⟨r0, x0, l0, c0⟩ := (H.out.row 4 rfl).at_ (i := 0) (by omega)
 obtain ⟨r1, x1, l1, c1⟩ := (H.out.row 3 rfl).at_ (i := 0) (by omega)
 have RL := Ho.mk (And.intro (And.intro l0 c0) (And.intro l1 c1))
 have AD := Ho.mk (fun w => P2.dCAdd w RL.out.1.1 (show 0 < 2 * sgnW by decide) RL.out.2.1 (show 0 < 2 * sgnW by decide))
 have SU := Ho.mk (fun w => P2.dCSub w RL.out.1.1 (show 0 < 2 * sgnW by decide) RL.out.2.1 (show 0 < 2 * sgnW by decide))
 clear l0 c0 l1 c1 ZL1 ZL2
 refine then_falseW ?_
 refine wp_region_held_drew (S := fun w' => Bel w6 w') (by kernel_rfl) (Bel.refl _).drew (fun hHeld => ?_)
 (try dsimp only at hHeld)
 refine rt (i := 0) hHeld ?_
 refine rl (i := 1) (v := ?_) hHeld (fun w' hSw => ?_) ?_
 rotate_left
 ·(have z0 := hSw.cell y0; go_simp; try (with_reducible rfl))
 refine rt (i := 2) hHeld ?_
 refine rl (i := 3) (v := ?_) hHeld (fun w' hSw => ?_) ?_
 rotate_left
 ·(have z0 := hSw.cell x0; go_simp; try (with_reducible rfl))
 refine rt (i := 4) hHeld ?_
 refine rl (i := 5) (v := ?_) hHeld (fun w' hSw => ?_) ?_
 rotate_left
 ·(have z0 := hSw.cell y1; go_simp; try (with_reducible rfl))
 refine rt (i := 6) hHeld ?_
 refine rl (i := 7) (v := ?_) hHeld (fun w' hSw => ?_) ?_
 rotate_left
 ·(have z0 := hSw.cell x1; go_simp; try (with_reducible rfl))
 try simp only [Act.put, List.setIfInBounds_toArray, List.set_cons_zero, List.set_cons_succ]
 refine rc (i := 8) (fun K hK => ?_)
 go_simp
 go_at_call 81
 (with_reducible refine (AD.out _).mono ?_); rintro e wqa ⟨ra, sa, rfl, la, ca, bqa⟩
 try go_wp2_with fail
 refine hK.out _ _ (Bel.trans hHeld bqa) (fun hHeld => ?_)
 clear hK K
 refine rt (i := 9) hHeld ?_
 refine rt (i := 10) hHeld ?_
 refine rt (i := 11) hHeld ?_
 refine rt (i := 12) hHeld ?_
 refine rt (i := 13) hHeld ?_
 try simp only [Act.put, List.setIfInBounds_toArray, List.set_cons_zero, List.set_cons_succ]
 refine wpAnyH_done (by kernel_rfl) ?_ _
 have Ha := Ho.mk (And.intro la.1 ca.1)
 have BQa := Ho.mk ((Bel.refl w6).drew.trans bqa)
 clear la ca hHeld
 have y0 := BQa.out.cell y0
 have y1 := BQa.out.cell y1
 have x0 := BQa.out.cell x0
 have x1 := BQa.out.cell x1
 go_upto_region 9 with fail
 refine then_falseW ?_
 refine wp_region_held_drew (S := fun w' => Bel wqa w') (by kernel_rfl) (Bel.refl _).drew (fun hHeld => ?_)
 (try dsimp only at hHeld)
 refine rt (i := 0) hHeld ?_
 refine rl (i := 1) (v := ?_) hHeld (fun w' hSw => ?_) ?_
 rotate_left
 ·(have z0 := hSw.cell y0; go_simp; try (with_reducible rfl))
 refine rt (i := 2) hHeld ?_
 refine rl (i := 3) (v := ?_) hHeld (fun w' hSw => ?_) ?_
 rotate_left
 ·(have z0 := hSw.cell x0; go_simp; try (with_reducible rfl))
 refine rt (i := 4) hHeld ?_
 refine rl (i := 5) (v := ?_) hHeld (fun w' hSw => ?_) ?_
 rotate_left
 ·(have z0 := hSw.cell y1; go_simp; try (with_reducible rfl))
 refine rt (i := 6) hHeld ?_
 refine rl (i := 7) (v := ?_) hHeld (fun w' hSw => ?_) ?_
 rotate_left
 ·(have z0 := hSw.cell x1; go_simp; try (with_reducible rfl))
 try simp only [Act.put, List.setIfInBounds_toArray, List.set_cons_zero, List.set_cons_succ]
 refine rc (i := 8) (fun K hK => ?_)
 go_simp
 go_at_call 82
 (with_reducible refine (SU.out _).mono ?_); rintro e wqb ⟨rb, sb, rfl, lb, cb, bqb⟩
 try go_wp2_with fail
 refine hK.out _ _ (Bel.trans hHeld bqb) (fun hHeld => ?_)
 clear hK K
 refine rt (i := 9) hHeld ?_
 refine rt (i := 10) hHeld ?_
 refine rt (i := 11) hHeld ?_
 refine rt (i := 12) hHeld ?_
 refine rt (i := 13) hHeld ?_
 try simp only [Act.put, List.setIfInBounds_toArray, List.set_cons_zero, List.set_cons_succ]
 refine wpAnyH_done (by kernel_rfl) ?_ _
 have Hb := Ho.mk (And.intro lb.1 cb.1)
 have BQb := Ho.mk ((Bel.refl wqa).drew.trans bqb)
 clear lb cb hHeld
 replace H := Ho.mk ((H.out.grow BQa.out).grow BQb.out)
 clear y0 y1 x0 x1 AD SU BQa BQb
 have y0 := (H.out.blk 0 rfl).cell (i := 0) rfl
 have PU := Ho.mk (dPut (n := X.length) (c := X.length) (k := 0) wqb (H.out.whole 1 rfl) (by have := HN2.out; omega) List.length_replicate (by omega) Ha.out.1 Hb.out.1)
 go_wp2_with fail
 (refine PU.out.mono ?_); rintro e w7 ⟨rfl, f1, G⟩
 replace H := Ho.mk (H.out.grW 1 rfl G f1)
 simp only [List.set_cons_zero, List.set_cons_succ] at H
 obtain ⟨pf, hpf⟩ : ∃ pf, pf = packAt opsN (tabW p) m Z := ⟨_, rfl⟩
 have e0 : cn ra = pf (2 * 0) := by rw [hpf, Ha.out.2, RL.out.1.2, RL.out.2.2]; rfl
 have e1 : cn rb = pf (2 * 0 + 1) := by rw [hpf, Hb.out.2, RL.out.1.2, RL.out.2.2]; rfl
 have e2 := upTo_two pf (n := X.length) (k := 0) (by have := HN2.out; omega) e0 e1
 rw [upTo_zero] at e2
 rw [e2] at H
 have HPF := Ho.mk hpf
 have TB := Ho.mk (dTable (q := p) (m := m) (qi := (p : Int)) (mi := (m : Int)) w7 (TT.out.bel H.out.bel) rfl (by omega) rfl (by omega))
 have ed : (X.length : Int).tdiv 2 = (m : Int) := by rw [HN2.out, Int.tdiv_eq_ediv_of_nonneg (by omega)]; omega
 clear f1 G hpf e0 e1 e2 PU y0
 go_wp2_with fail
 (with_reducible refine TB.out.mono ?_); rintro e w8 ⟨b1, b2, rfl, f1, f2, le1, lt2, bt⟩
 replace H := Ho.mk (H.out.comb (Hp.two bt f1 f2 le1 lt2))
 simp only [List.cons_append, List.nil_append] at H
 clear f1 f2 le1 lt2 bt TB
 go_upto_region 12 with fail
 replace H := Ho.mk (H.out.box [.slice (some ⟨b1, 0, none⟩) m m, .slice (some ⟨b2, 0, none⟩) m m] 24)
 generalize w8.alloc (.cells #[.slice (some ⟨b1, 0, none⟩) m m, .slice (some ⟨b2, 0, none⟩) m m] 24) = w9 at *
 generalize w8.heap.size = bw at *
 have y0 := (H.out.blk 5 rfl).cell (i := 0) rfl
 have y1 := (H.out.blk 5 rfl).cell (i := 1) rfl
 have EN := Ho.mk (dEndsP (A := some ⟨bE, 0, none⟩) (B := some ⟨bO, 0, none⟩) (m := m) (m' := m) (c := cE) (c' := cO) w9)
 go_wp2_with fail
 (with_reducible refine EN.out.mono ?_); rintro e w10 ⟨rfl, rfl⟩
 clear EN y0 y1
 replace H := Ho.mk (H.out.box [.slice (some ⟨bE, 0, none⟩) m cE, .slice (some ⟨bO, 0, none⟩) m cO] 24)
 generalize w9.alloc (.cells #[.slice (some ⟨bE, 0, none⟩) m cE, .slice (some ⟨bO, 0, none⟩) m cO] 24) = w10 at *
 generalize w9.heap.size = bs at *
 go_wp2_with fail
 have HB := Ho.mk H.out.bel
 have HBs := HB.out.size
 refine (wpIn_wide (n := 3)).1 ?_
 refine rangeB (α := E4) (encs := encE) (bs := [bo]) (N := m - 1) (Bd := False) (Px := fun pre x _ => x.k = pre.length + 1 ∧ x.Ok Z.1 Z.2 m) (S := fun zs => zs.length = m - 1) (Sp := fun _ => True)
  (by omega) rfl (fun args w => by rfl) (fun x => by rfl) (by intro k hk; simp at hk; subst hk; have q := H.out.ltI 5 rfl; exact q) ?_
  (fun pre O W => Hp w W ([.blk bs 24 [.slice (some ⟨bE, 0, none⟩) m cE, .slice (some ⟨bO, 0, none⟩) m cO], .blk bw 24 [.slice (some ⟨b1, 0, none⟩) m m, .slice (some ⟨b2, 0, none⟩) m m], .whole b1 ((List.range m).map fun k => (tabW p k).1), .whole b2 ((List.range m).map fun k => (tabW p k).2), .blk (bo + 1) 98 [.func (.func 80) #[.slice (some ⟨bo, 0, none⟩) X.length X.length] #[]], .whole bo (upTo pf X.length (2 * (pre.length + 1))), .blk bz 24 [.slice (some ⟨bE, 0, none⟩) m cE, .slice (some ⟨bO, 0, none⟩) m cO], .row bO Z.2, .row bE Z.1]) ∧ w10.heap.size ≤ W.heap.size ∧ ∀ k ∈ O, w10.heap.size ≤ k ∧ k < W.heap.size) (fun _ _ _ _ => False) (fun h => h.elim) (fun pre => hp_abides (by intro e he; simp at he; rcases he with rfl | rfl | rfl | rfl | rfl | rfl | rfl | rfl | rfl <;> first | (have q := H.out.ltI 0 rfl; exact q) | (have q := H.out.ltI 1 rfl; exact q) | (have q := H.out.ltI 2 rfl; exact q) | (have q := H.out.ltI 3 rfl; exact q) | (have q := H.out.ltI 4 rfl; exact q) | (have q := H.out.ltI 5 rfl; exact q) | (have q := H.out.ltI 6 rfl; exact q) | (have q := H.out.ltI 7 rfl; exact q) | (have q := H.out.ltI 8 rfl; exact q)) HBs) (fun _ _ _ _ _ _ h => h.elim) ?_
  (fun pre x a' W => ∃ kb, (∃ u, a' = frm u (.pointer (some ⟨bz, 0, none⟩)) (.slice (some ⟨bo, 0, none⟩) X.length X.length) (.pointer (some ⟨bo + 1, 0, none⟩)) (.pointer (some ⟨bw, 0, none⟩)) (.int .i64 (x.k : Int)) (.pointer (some ⟨kb, 0, none⟩))) ∧ Blk W kb 105 [.float .f64 x.a, .float .f64 x.b, .float .f64 x.c, .float .f64 x.d] ∧ x.k = pre.length + 1 ∧ x.Ok Z.1 Z.2 m) ?_ ?_ ?_ ?_ ?_
 ·-- the iterator's promise
  intro W hW hBW
  refine ends1 (m := m) (c := cE) (c' := cO) W (H.out.grow hBW |>.blk 0 rfl) ((H.out.grow hBW).row 8 rfl) ((H.out.grow hBW).row 7 rfl) ZL.out.1 ZL.out.2 hm1 (by omega) _ _ W _ (by omega) (Bel.refl W) ?_
  intro k hk
  simp at hk
  have n1 : bo ≠ bs := by have q := H.out.ne 5 0 rfl rfl; exact q
  have n2 : bo ≠ bE := by have q := H.out.ne 5 8 rfl rfl; exact q
  have n3 : bo ≠ bO := by have q := H.out.ne 5 7 rfl rfl; exact q
  have m1 : bs < w10.heap.size := by have q := H.out.ltI 0 rfl; exact q
  have m2 : bE < w10.heap.size := by have q := H.out.ltI 8 rfl; exact q
  have m3 : bO < w10.heap.size := by have q := H.out.ltI 7 rfl; exact q
  simp
  rcases hk with rfl | rfl
  ·exact ⟨n1, n2, n3⟩
  ·omega
 ·exact ⟨H.out, Nat.le_refl _, by simp⟩
 ·-- the loop's record
  rintro pre x a' V r o hr ⟨kb, hu, hk, h3⟩
  refine ⟨kb, hu, blk_keep hk (World.putObj_heap_other ?_), h3⟩
  rintro rfl
  have := hk.out
  rw [hr] at this; simp at this
 ·-- the loop's variables
  rintro l pre O x W K hI hsz hx hK
  simp [encE]
  gi_wp2
  refine hK _ _ ((Bel.refl W).alloc _) ⟨W.heap.size, frm_mk (by rfl), Blk.new W [.float .f64 x.a, .float .f64 x.b, .float .f64 x.c, .float .f64 x.d] _, hx.1, hx.2⟩
 ·-- a round
  rintro l pre O x a' W ⟨hH, hB, hO2⟩ hlen hsz ⟨kb, ⟨u, rfl⟩, hk, hxk, hxo⟩ hO hlO
  obtain ⟨xk, xa, xb, xc, xd⟩ := x
  dsimp only at hk hxk hxo ⊢
  subst hxk
  obtain ⟨⟨⟨la, lb⟩, lc, ld⟩, ⟨ca, cb⟩, cc, cd⟩ := hxo
  dsimp only at la lb lc ld ca cb cc cd
  have HK := Ho.mk hk
  have HH := Ho.mk hH
  have FW := Ho.mk (hH.whole 5 rfl)
  have HA := Ho.mk (And.intro (And.intro la lb) (And.intro lc ld))
  have HC := Ho.mk (And.intro (And.intro ca cb) (And.intro cc cd))
  have HO := Ho.mk hO2
  clear hk hH la lb lc ld ca cb cc cd hO2
  dsimp only [frm]
  refine wpIn_block ?_
  have x0 := (HK.out).cell (i := 0) rfl
  have x1 := (HK.out).cell (i := 1) rfl
  have x2 := (HK.out).cell (i := 2) rfl
  have x3 := (HK.out).cell (i := 3) rfl
  have C1 := Ho.mk (P2.dCAdd W HA.out.1.1 HA.out.1.2 HA.out.2.1 (fng_lt' HA.out.2.2))
  gi_wp2_with fail
  refine ⟨by first | trivial | (intro h; cases h), (CallsIn.inRound l (callsIn_wide.2 C1.out)).mono ?_⟩
  rintro e v1 ⟨r1, s1, rfl, l1, c1, b1⟩
  have H1 := Ho.mk (And.intro l1 c1)
  have B1 := Ho.mk b1
  clear C1 l1 c1 b1
  clear x0 x1 x2 x3
  have x0 := (HK.out.bel B1.out).cell (i := 0) rfl
  have x1 := (HK.out.bel B1.out).cell (i := 1) rfl
  have x2 := (HK.out.bel B1.out).cell (i := 2) rfl
  have x3 := (HK.out.bel B1.out).cell (i := 3) rfl
  have C2 := Ho.mk (P2.dCAdd v1 HA.out.1.2 (fng_lt' HA.out.1.1) HA.out.2.2 HA.out.2.1)
  gi_wp2_with fail
  refine ⟨by first | trivial | (intro h; cases h), (CallsIn.inRound l (callsIn_wide.2 C2.out)).mono ?_⟩
  rintro e v2 ⟨r2, s2, rfl, l2, c2, b2⟩
  have H2 := Ho.mk (And.intro l2 c2)
  have B2 := Ho.mk b2
  clear C2 l2 c2 b2
  clear x0 x1 x2 x3
  have C3 := Ho.mk (P0.dHalf v2 H1.out.1.1 H1.out.1.2)
  gi_wp2_with fail
  refine ⟨by first | trivial | (intro h; cases h), (CallsIn.inRound l (callsIn_wide.2 C3.out)).mono ?_⟩
  rintro e v3 ⟨r3, s3, rfl, l3, c3, b3⟩
  have H3 := Ho.mk (And.intro l3 c3)
  have B3 := Ho.mk b3
  clear C3 l3 c3 b3
  have C4 := Ho.mk (P0.dHalf v3 H2.out.1.1 H2.out.1.2)
  gi_wp2_with fail
  refine ⟨by first | trivial | (intro h; cases h), (CallsIn.inRound l (callsIn_wide.2 C4.out)).mono ?_⟩
  rintro e v4 ⟨r4, s4, rfl, l4, c4, b4⟩
  have H4 := Ho.mk (And.intro l4 c4)
  have B4 := Ho.mk b4
  clear C4 l4 c4 b4
  have BB := Ho.mk (((B1.out.trans B2.out).trans B3.out).trans B4.out)
  replace HH := Ho.mk (HH.out.grow BB.out)
  have y0 := (HH.out.blk 1 rfl).cell (i := 0) rfl
  have y1 := (HH.out.blk 1 rfl).cell (i := 1) rfl
  obtain ⟨c5, x0, cl5, cc5⟩ := (HH.out.whole 2 rfl).at_ (i := pre.length + 1) (by simp; omega)
  obtain ⟨d5, x1, dl5, dc5⟩ := (HH.out.whole 3 rfl).at_ (i := pre.length + 1) (by simp; omega)
  rw [nthN_lt (by simp; omega)] at cc5 dc5
  simp only [List.getElem_map, List.getElem_range] at cc5 dc5
  have HW := Ho.mk (And.intro (And.intro cl5 dl5) (And.intro cc5 dc5))
  have hi1 : 0 ≤ (pre.length : Int) + 1 := by omega
  have hi2 : (pre.length : Int) + 1 < (m : Int) := by omega
  have C5 := Ho.mk (fun w => P2.dCTurn w H4.out.1.1 H4.out.1.2 HW.out.1.1 HW.out.1.2)
  clear cl5 dl5 cc5 dc5
  gi_wp2_with fail
  refine Yi.held_round (S := fun w' => Bel v4 w') (by kernel_rfl) (by intro o ho c e; simp at ho; rcases ho with rfl | rfl | rfl | rfl | rfl | rfl | rfl | rfl | rfl | rfl | rfl | rfl | rfl | rfl | rfl | rfl | rfl | rfl <;> cases e) (by rintro ⟨_, _, h⟩; exact h) (Bel.refl _).drew (fun hHeld => ?_)
  (try dsimp only at hHeld)
  refine rt (i := 0) hHeld ?_
  refine rt (i := 1) hHeld ?_
  refine rt (i := 2) hHeld ?_
  refine rl (i := 3) (v := ?_) hHeld (fun w' hSw => ?_) ?_
  rotate_left
  ·(have z0 := hSw.cell y0; go_simp; try (with_reducible rfl))
  refine rt (i := 4) hHeld ?_
  refine rt (i := 5) hHeld ?_
  refine rl (i := 6) (v := ?_) hHeld (fun w' hSw => ?_) ?_
  rotate_left
  ·(have z0 := hSw.cell x0; go_simp; try (with_reducible rfl))
  refine rt (i := 7) hHeld ?_
  refine rl (i := 8) (v := ?_) hHeld (fun w' hSw => ?_) ?_
  rotate_left
  ·(have z0 := hSw.cell y1; go_simp; try (with_reducible rfl))
  refine rt (i := 9) hHeld ?_
  refine rt (i := 10) hHeld ?_
  refine rl (i := 11) (v := ?_) hHeld (fun w' hSw => ?_) ?_
  rotate_left
  ·(have z0 := hSw.cell x1; go_simp; try (with_reducible rfl))
  try simp only [Act.put, List.setIfInBounds_toArray, List.set_cons_zero, List.set_cons_succ]
  refine rc (i := 12) (fun K hK => ?_)
  go_simp
  go_at_call 86
  (with_reducible refine (C5.out _).mono ?_); rintro e v5 ⟨r5, s5, rfl, l5, c5', b5⟩
  try go_wp2_with fail
  refine hK.out _ _ (Bel.trans hHeld b5) (fun hHeld => ?_)
  clear hK K
  refine rt (i := 13) hHeld ?_
  refine rt (i := 14) hHeld ?_
  refine rt (i := 15) hHeld ?_
  refine rt (i := 16) hHeld ?_
  refine rt (i := 17) hHeld ?_
  try simp only [Act.put, List.setIfInBounds_toArray, List.set_cons_zero, List.set_cons_succ]
  refine wpAnyH_done (by kernel_rfl) ?_ _
  have H5 := Ho.mk (And.intro l5 c5')
  have B5 := Ho.mk ((Bel.refl v4).drew.trans b5)
  replace HH := Ho.mk (HH.out.grow B5.out)
  clear y0 y1 x0 x1 l5 c5' C5 hHeld b5
  have C6 := Ho.mk (P2.dCAdd v5 H3.out.1.1 H3.out.1.2 H5.out.1.1 H5.out.1.2)
  gi_wp2_with fail
  refine ⟨by first | trivial | (intro h; cases h), (CallsIn.inRound l (callsIn_wide.2 C6.out)).mono ?_⟩
  rintro e v6 ⟨r6, s6, rfl, l6, c6, b6⟩
  have H6 := Ho.mk (And.intro l6 c6)
  replace HH := Ho.mk (HH.out.grow b6)
  replace BB := Ho.mk ((BB.out.trans B5.out).trans b6)
  clear C6 l6 c6 b6
  have y0 := (HH.out.blk 4 rfl).cell (i := 0) rfl
  have C7 := Ho.mk (dPut (n := X.length) (c := X.length) (k := pre.length + 1) v6 (HH.out.whole 5 rfl) (by have := HN2.out; omega) (upTo_len _ _ _) (by omega) H6.out.1.1 H6.out.1.2)
  gi_wp2_with fail
  refine ⟨by first | trivial | (intro h; cases h), (CallsIn.inRound l (callsIn_wide.2 C7.out)).mono ?_⟩
  rintro e v7 ⟨rfl, f7, G7⟩
  clear C7 y0
  gi_wp2_with fail
  have e8 := bin_law (wd := tabW p (pre.length + 1)) HA.out.1.1 HA.out.2.2 HC.out.1.1 HC.out.1.2 HC.out.2.1 HC.out.2.2 H1.out.2 H2.out.2 H3.out.2 H4.out.2 HW.out.2 H5.out.2 H6.out.2
  have e9 := pack_at (p := p) (m := m) (k := pre.length + 1) (Z := Z) (by omega)
  rw [← e9.1, ← e9.2, ← HPF.out] at e8
  have e2 := upTo_two pf (n := X.length) (k := pre.length + 1) (by have := HN2.out; omega) e8.1 e8.2
  have HF := HH.out.grW 5 rfl G7 f7
  simp only [List.set_cons_zero, List.set_cons_succ] at HF
  rw [e2] at HF
  have q5 := H.out.ltI 5 rfl
  have q6 : bo < w10.heap.size := q5
  refine ⟨yd_gr ((BB.out.gr bo).trans G7) FW.out (by simp) (fun q => by have := (HO.out _ q).1; omega), ?_, ?_, ?_⟩
  ·rw [List.length_append, List.length_singleton]; exact HF
  ·have := BB.out.size; have := G7.size; omega
  ·intro k hk
   have := HO.out k hk; have := BB.out.size; have := G7.size
   omega
 ·-- all have come
  rintro zs O W hsz hzs ⟨hH, hB, hO2⟩ hd
  have F := hH.whole 5 rfl
  have G5 := hH.geI 5 rfl
  have G6 : w.heap.size ≤ bo := G5
  have q5 := H.out.ltI 5 rfl
  have q6 : bo < w10.heap.size := q5
  rw [hzs, show 2 * (m - 1 + 1) = X.length by have := HN2.out; omega, upTo_all] at F
  have eR : (List.range X.length).map pf = rfftN p X := by unfold rfftN; rw [HPF.out, ZR.out, HP.out, HM.out]
  rw [eR] at F
  have HF := Ho.mk F
  have HBW := Ho.mk hH.bel
  clear F hH hO2
  go_wp2_with fail
  refine leaveAny hd ?_
  go_ret2
  exact ⟨bo, rfl, ⟨HF.out.out.choose, ⟨(World.putObj_heap_other (by omega)).trans HF.out.out.choose_spec.1.out⟩, HF.out.out.choose_spec.2⟩, G6, ⟨⟨HBW.out.out.os, HBW.out.out.tape, HBW.out.out.output, by have := HBW.out.size; simpa [World.putObj] using this, fun j hj => (World.putObj_heap_other (by have := HB.out.size; omega)).trans (HBW.out.out.block j hj)⟩⟩⟩
 ·rintro c pre O W hsz _ hI; exact hI.elim
end Y5
namespace Y6
open Ieee Go Go.RowKit Go.Proofs Go.Proofs.YtnbdoidccacdnaaGreatDoor Ow Dt Gp I0 U0 W0 S4 S6 P0 M0 M1 M3 W4 W5 V2 P4 Y3 Yh Y4 Y1 P8 Pc Y5
open Go.Proofs.YtnbdoidccacdnaaGreatDoor.V1 (NI St ni_same ni_loop St.refl St.of_bel blk_keep ni_blk put_st)
open Go.Proofs.YtnbdoidccacdnaaGreatDoor.C6 (leaveAny)
open Go.Proofs.YtnbdoidccacdnaaGreatDoor.Pg (In)
attribute [local go_sem ↓] Go.wp_at_zero Go.wp_at_succ
def okR (n : Nat) : Bool := decide (1 ≤ logI n)
def rfR (X : List Nat) : List Nat := if okR X.length then rfftN (Nat.log2 X.length) X else []
def errF (X : List Nat) : Int := if okR X.length then 0 else 2
theorem okR_pow {n : Nat} (h : okR n = true) : n = 2 ^ Nat.log2 n ∧ 1 ≤ Nat.log2 n ∧ n ≤ 1024 := by
 unfold okR at h
 have h := of_decide_eq_true h
 unfold logI at h
 split at h
 ·rename_i q; exact ⟨q.2.1.symm, by omega, q.2.2⟩
 ·omega
theorem logI_bad {n : Nat} (h : okR n = false) : logI n < 1 := by
 unfold okR at h
 have := of_decide_eq_false h
 omega
theorem log_7 {n : Nat} (h : n ≤ 128) (h2 : n = 2 ^ Nat.log2 n) : Nat.log2 n ≤ 7 := by
 apply Nat.le_of_not_lt; intro q
 have : 2 ^ 8 ≤ 2 ^ Nat.log2 n := Nat.pow_le_pow_right (by decide) q
 rw [← h2] at this; omega
def MakesRE (w : World) (Z : List Nat) (z : Int) (e : Ending) (w' : World) : Prop := ∃ A c, e = .returned (.tuple #[.slice A Z.length c, .int .i64 z]) ∧ RowF w' w.heap.size (.slice A Z.length c) Z ∧ Bel w w'
theorem dRfftBad {A : Option Addr} {c n : Nat} (w : World) (T : Tab w) (hn : n ≤ 128) (hb : okR n = false) :
  Calls Tryz.prog 38 #[.slice A n c] w fun e w' => e = .returned (.tuple #[.slice none 0 0, .int .i64 2]) ∧ Bel w w' := by
 have hl := logI_bad hb
 obtain ⟨z, hz⟩ : ∃ z, z = logI n := ⟨_, rfl⟩
 have C0 := dLogR (n := n) rfl w (by omega) T
 rw [← hz] at C0 hl
 have C0 := Ho.mk C0
 clear T hb hz
 go_enter Tryz.func38, Tryz.ntmps38
 go_wp2_with fail
 (with_reducible refine C0.out.mono ?_); rintro e w1 ⟨rfl, rfl⟩
 clear C0
 go_wp2
 go_ret2
 exact ⟨rfl, Bel.refl _⟩
theorem dRfft {A : Option Addr} {c : Nat} {X : List Nat} (w : World) (T : Tab w) (hx : In w (.slice A X.length c) X) (hl : X.length ≤ 128) :
  Calls Tryz.prog 38 #[.slice A X.length c] w (MakesRE w (rfR X) (errF X)) := by
 unfold rfR errF
 cases hb : okR X.length with
 | true =>
  obtain ⟨h1, h2, _⟩ := okR_pow hb
  refine (dRfftOk w T hx h1 h2 (log_7 hl h1)).mono ?_
  rintro e w' ⟨b, rfl, F, hB, g⟩
  have l := rfftN_len (Nat.log2 X.length) X
  rw [← h1] at l
  simp only [if_true]
  refine ⟨some ⟨b, 0, none⟩, X.length, by rw [l], ?_, g⟩
  exact RowF.of F.fz hB (by rw [l]; exact Nat.le_refl _) (by omega)
 | false =>
  refine (dRfftBad w T hl hb).mono ?_
  rintro e w' ⟨rfl, g⟩
  exact ⟨none, 0, rfl, RowF.nil _ _ _ _ (by decide), g⟩
end Y6
namespace Y7
open Ieee Go Go.RowKit Go.Proofs Go.Proofs.YtnbdoidccacdnaaGreatDoor Ow Dt Gp I0 U0 W0 S4 S6 P0 M0 M1 M3 W4 W5 V2 P4 Y3 Yh Y4 Y1 P8 Pc Y5 Y6
open Go.Proofs.YtnbdoidccacdnaaGreatDoor.V1 (NI St ni_same ni_loop St.refl St.of_bel blk_keep ni_blk put_st)
open Go.Proofs.YtnbdoidccacdnaaGreatDoor.C6 (leaveAny)
open Go.Proofs.YtnbdoidccacdnaaGreatDoor.Pg (In two_nil)
attribute [local go_sem ↓] Go.wp_at_zero Go.wp_at_succ
theorem resVB {fn : Func} {p q : Tmp} {tmps : Array Value} {w : World} {b : Nat} {v0 v1 : Value} {z : Bool} (hf : fn.results = #[.cell p 24, .tmp q]) (hp : tmps.getD p undef = .pointer (some ⟨b, 0, none⟩)) (hq : tmps.getD q undef = .bool z) (h : Blk w b 24 [v0, v1]) :
  (results fn tmps).run Tryz.prog w = .ok (.tuple #[.agg #[v0, v1], .bool z]) w := by
 have y0 := h.cell (i := 0) rfl
 have y1 := h.cell (i := 1) rfl
 have hp2 := hp
 have hq2 := hq
 rw [Array.getD_eq_getD_getElem?] at hp2 hq2
 simp [results, hf, hp2, hq2, go_sem, y0, y1]
def MakesVB (W0 : World) (X Y : List Nat) (z : Bool) (e : Ending) (w' : World) : Prop := ∃ A c B c', e = .returned (.tuple #[.agg #[.slice A X.length c, .slice B Y.length c'], .bool z]) ∧ Two w' W0.heap.size (.slice A X.length c) (.slice B Y.length c') X Y ∧ Bel W0 w'
def binsRe (X : List Nat) : List Nat := if okR X.length then M2.evenG opsN X ++ [nthN (M2.oddG opsN X) 0] else []
def binsIm (X : List Nat) : List Nat := if okR X.length then (M2.oddG opsN X).set 0 0 ++ [0] else []
theorem dBinsBad {A : Option Addr} {c n : Nat} (w : World) (T : Tab w) (hn : n ≤ 128) (hb : okR n = false) :
  Calls Tryz.prog 40 #[.slice A n c] w (MakesVB w [] [] false) := by
 have hl := logI_bad hb
 obtain ⟨z, hz⟩ : ∃ z, z = logI n := ⟨_, rfl⟩
 have C0 := dLogR (n := n) rfl (w.alloc (.cells #[.slice none 0 0, .slice none 0 0] 24)) (by omega) (T.bel ((Bel.refl w).alloc _))
 rw [← hz] at C0 hl
 have C0 := Ho.mk C0
 have H := Ho.mk ((Hp.nil (Bel.refl w)).box [.slice none 0 0, .slice none 0 0] 24)
 clear T hb hz
 go_enter Tryz.func40, Tryz.ntmps40
 go_wp2_with fail
 generalize w.alloc (.cells #[.slice none 0 0, .slice none 0 0] 24) = w0 at *
 (with_reducible refine C0.out.mono ?_); rintro e w1 ⟨rfl, rfl⟩
 have y0 := (H.out.blk 0 rfl).cell (i := 0) rfl
 have y1 := (H.out.blk 0 rfl).cell (i := 1) rfl
 have z0 := (H.out.blk 0 rfl).free 0
 have z1 := (H.out.blk 0 rfl).free 1
 clear C0
 go_wp2_with fail
 have H2 := (H.out.set 0 rfl 0 (.slice none 0 0))
 have H3 := (H2.set 0 rfl 1 (.slice none 0 0))
 refine bodyPost_ret (resVB (fn := Tryz.f40) rfl rfl rfl (H3.blk 0 rfl)) rfl ⟨none, 0, none, 0, rfl, two_nil _ _, H3.bel⟩
theorem dBinsOk {A : Option Addr} {c m : Nat} {X : List Nat} (w : World) (T : Tab w) (hx : In w (.slice A X.length c) X) (hn : X.length = 2 * m) (hm : 1 ≤ m) (hl : X.length ≤ 128) (hok : okR X.length = true) :
  Calls Tryz.prog 40 #[.slice A X.length c] w (MakesVB w (M2.evenG opsN X ++ [nthN (M2.oddG opsN X) 0]) ((M2.oddG opsN X).set 0 0 ++ [0]) true) := by
 have hl1 : 1 ≤ logI X.length := of_decide_eq_true hok
 obtain ⟨z, hz⟩ : ∃ z, z = logI X.length := ⟨_, rfl⟩
 have C0 := dLogR (n := X.length) rfl (w.alloc (.cells #[.slice none 0 0, .slice none 0 0] 24)) (by omega) (T.bel ((Bel.refl w).alloc _))
 rw [← hz] at C0 hl1
 have C0 := Ho.mk C0
 have B0 := Ho.mk ((Bel.refl w).alloc (.cells #[.slice none 0 0, .slice none 0 0] 24))
 have KR := Ho.mk (Blk.new w [.slice none 0 0, .slice none 0 0] 24)
 have lE : (M2.evenG opsN X).length = m := by rw [M2.evenG_len]; omega
 have lO : (M2.oddG opsN X).length = m := by rw [M2.oddG_len]; omega
 have HX := Ho.mk hx
 obtain ⟨Ze, hZe⟩ : ∃ Ze, Ze = M2.evenG opsN X := ⟨_, rfl⟩
 obtain ⟨Zo, hZo⟩ : ∃ Zo, Zo = M2.oddG opsN X := ⟨_, rfl⟩
 rw [← hZe] at lE
 rw [← hZo] at lO
 rw [← hZe, ← hZo]
 have HZ := Ho.mk (And.intro hZe hZo)
 have LE := Ho.mk lE
 have LO := Ho.mk lO
 have hm64 : m ≤ 64 := by omega
 have HN := Ho.mk hn
 clear T hok hz hx hZe hZo lE lO hn
 go_enter Tryz.func40, Tryz.ntmps40
 go_wp2_with fail
 have hS0 : (w.alloc (.cells #[.slice none 0 0, .slice none 0 0] 24)).heap.size = w.heap.size + 1 := World.size_alloc _ _
 generalize w.alloc (.cells #[.slice none 0 0, .slice none 0 0] 24) = w0 at *
 (with_reducible refine C0.out.mono ?_); rintro e w1 ⟨rfl, rfl⟩
 have C1 := dEven w0 (HX.out.bel B0.out) (by omega)
 rw [← HZ.out.1] at C1
 have C1 := Ho.mk C1
 clear C0
 go_wp2_with fail
 (with_reducible refine C1.out.mono ?_); rintro e w1 ⟨A1, c1, rfl, g1, b1⟩
 rw [LE.out] at g1 ⊢
 have C2 := dOdd w1 ((HX.out.bel B0.out).bel b1) (by omega)
 rw [← HZ.out.2] at C2
 have C2 := Ho.mk C2
 have G1 := Ho.mk g1
 have B1 := Ho.mk b1
 clear C1 g1 b1
 go_wp2_with fail
 (with_reducible refine C2.out.mono ?_); rintro e w2 ⟨A2, c2, rfl, g2, b2⟩
 rw [LO.out] at g2 ⊢
 obtain ⟨gO, c2', e2, _⟩ := g2.1.form (by rw [LO.out]; exact hm)
 rw [LO.out] at e2
 cases e2
 have gO1 := g2.2 gO rfl
 have gO2 := g2.1.lt (g := gO) rfl
 obtain ⟨rx, yx, lx, cx⟩ := g2.1.fz.at_ (i := 0) (by rw [LO.out]; exact hm)
 have O1 := Ho.mk (G1.out.1.bel b2)
 have O2 := Ho.mk g2.1
 have BK1 := Ho.mk (fun g (hg : (Value.slice A1 m c1).ownBlock = some g) => And.intro (G1.out.2 g hg) (G1.out.1.lt hg))
 have RX := Ho.mk (And.intro lx cx)
 have B2 := Ho.mk (B1.out.trans b2)
 have KR := Ho.mk (KR.out.bel B2.out)
 have hS2 := B2.out.size
 have hS1 := B1.out.size
 clear C2 g2 b2 lx cx G1
 go_upto_region 4 with fail
 have hm0 : 0 < m := hm
 have z9 := (Blk.new w2 [.float .f64 rx] 50).cell (i := 0) rfl
 have hsA : (w2.alloc (.cells #[.float .f64 rx] 50)).heap.size = w2.heap.size + 1 := World.size_alloc _ _
 have BA := Ho.mk ((Bel.refl w2).alloc (.cells #[.float .f64 rx] 50))
 have OA := Ho.mk (O1.out.bel BA.out)
 have hlE : Ze.length ≤ 100000 := by rw [LE.out]; omega
 obtain ⟨Z1, hZ1⟩ : ∃ Z1, Z1 = Ze ++ [cn rx] := ⟨_, rfl⟩
 have HZ1 := Ho.mk hZ1
 have L1 := Ho.mk (show Z1.length = m + 1 by rw [hZ1, List.length_append, LE.out]; rfl)
 clear hZ1
 go_upto_region 5 with (at_builtin; refine wpList_appA rfl _ _ rfl OA.out rfl rfl z9 RX.out.1 hlE HZ1.out ?_; intro tA tc w3 ho ha; rw [L1.out] at ho ha ⊢; have HO1 := Ho.mk ho; have HA1 := Ho.mk ha; have n1 : (Value.slice A1 m c1).ownBlock ≠ some gO := fun e => (by have := (BK1.out gO e).2; omega); have O3 := Ho.mk (HA1.out.og (O2.out.bel BA.out) (fun g hg => by cases hg; exact n1)); obtain ⟨_, y3, _, _⟩ := O3.out.fz.at_ (i := 0) (by rw [LO.out]; exact hm); have x3 := O3.out.fz.free 0; clear z9 ho ha yx)
 have KR3 := Ho.mk (HA1.out.blk (KR.out.bel BA.out) (fun e => by have := (BK1.out _ e).1; omega))
 have B3 := Ho.mk (HA1.out.bel ((B0.out.trans B2.out).trans BA.out) (fun g hg => by have := (BK1.out g hg).1; omega))
 have BK3 := Ho.mk (fun g (hg : (Value.slice tA (m + 1) tc).ownBlock = some g) => show w0.heap.size ≤ g ∧ g ≠ gO from by
  rcases HA1.out.own with q | q
  ·rw [q] at hg
   exact ⟨(BK1.out g hg).1, fun e => n1 (by rw [hg, e])⟩
  ·rw [q] at hg
   cases hg
   exact ⟨by omega, by omega⟩)
 have hS3 := B3.out.size
 have hS4 := HA1.out.size
 have O4 := Ho.mk (O3.out.setF 0 (r := 0) (x := 0) (by decide) cn_zero)
 have O5 := Ho.mk (HO1.out.far (p := ⟨gO, 0, none⟩) (fun e => (BK3.out gO e).2 rfl) (.float .f64 0))
 have KR4 := Ho.mk (KR3.out.far (p := ⟨gO, 0, none⟩) (by dsimp only; omega) (.float .f64 0))
 have B4 := Ho.mk (show Bel w (w3.setCell ⟨gO, 0, none⟩ (.float .f64 0)) from ⟨B3.out.out.setCell (p := ⟨gO, 0, none⟩) (by dsimp only; omega) _⟩)
 have hS5 : w3.heap.size = (w3.setCell ⟨gO, 0, none⟩ (.float .f64 0)).heap.size := by simp [World.setCell]
 clear y3 x3 KR3 B3 O3 HO1 OA O1 O2 KR
 generalize w3.setCell ⟨gO, 0, none⟩ (.float .f64 0) = w4 at *
 have nO : gO ≠ w.heap.size := by omega
 have z9 := (Blk.new w4 [.float .f64 0] 50).cell (i := 0) rfl
 have BA4 := Ho.mk ((Bel.refl w4).alloc (.cells #[.float .f64 0] 50))
 have hsA4 : (w4.alloc (.cells #[.float .f64 0] 50)).heap.size = w4.heap.size + 1 := World.size_alloc _ _
 have OA := Ho.mk (O4.out.bel BA4.out)
 have hlO : (Zo.set 0 0).length ≤ 100000 := by rw [List.length_set, LO.out]; omega
 obtain ⟨Z2, hZ2⟩ : ∃ Z2, Z2 = Zo.set 0 0 ++ [cn 0] := ⟨_, rfl⟩
 have HZ2 := Ho.mk hZ2
 have L2 := Ho.mk (show Z2.length = m + 1 by rw [hZ2, List.length_append, List.length_set, LO.out]; rfl)
 clear hZ2
 go_wp2_with (at_builtin; refine wpList_appA rfl _ _ rfl OA.out rfl rfl z9 (by decide) hlO HZ2.out ?_; intro sA sc w5 ho ha; rw [L2.out] at ho ha ⊢; have HO2 := Ho.mk ho; have HA2 := Ho.mk ha; have KR5 := Ho.mk (HA2.out.blk (KR4.out.bel BA4.out) (fun e => nO (Option.some.inj e))); have y0 := KR5.out.cell (i := 0) rfl; have y1 := KR5.out.cell (i := 1) rfl; have x0 := KR5.out.free 0; have x1 := KR5.out.free 1; clear z9 ho ha)
 have O6 := HA2.out.og (O5.out.bel BA4.out) (fun g hg e => by cases e; exact (BK3.out _ hg).2 rfl)
 have gw : w.heap.size ≤ gO := by omega
 have B5 := HA2.out.bel (B4.out.trans BA4.out) (fun g hg => by cases hg; exact gw)
 have KF := (KR5.out.set 0 (.slice tA (m + 1) tc)).set 1 (.slice sA (m + 1) sc)
 have own2 : ∀ g, (Value.slice sA (m + 1) sc).ownBlock = some g → w.heap.size + 1 ≤ g ∧ g ≠ w.heap.size ∧ ((Value.slice tA (m + 1) tc).ownBlock ≠ some g) := fun g hg => by
  rcases HA2.out.own with q | q
  ·rw [q] at hg; cases hg
   exact ⟨show w.heap.size + 1 ≤ gO by omega, show gO ≠ w.heap.size by omega, fun e => (BK3.out _ e).2 rfl⟩
  ·rw [q] at hg; cases hg
   have l4 := B4.out.size
   have lo := fun g hg => O5.out.lt (g := g) hg
   exact ⟨by omega, by omega, fun e => by have := lo _ e; omega⟩
 have own1 : ∀ g, (Value.slice tA (m + 1) tc).ownBlock = some g → w.heap.size + 1 ≤ g := fun g hg => by have := (BK3.out g hg).1; omega
 have q1 := (O6.far (p := ⟨w.heap.size, 0, none⟩) (fun e => by have := own1 _ e; dsimp only at this; omega) (.slice tA (m + 1) tc)).far (p := ⟨w.heap.size, 1, none⟩) (fun e => by have := own1 _ e; dsimp only at this; omega) (.slice sA (m + 1) sc)
 have q2 := (HO2.out.far (p := ⟨w.heap.size, 0, none⟩) (fun e => by have := (own2 _ e).1; dsimp only at this; omega) (.slice tA (m + 1) tc)).far (p := ⟨w.heap.size, 1, none⟩) (fun e => by have := (own2 _ e).1; dsimp only at this; omega) (.slice sA (m + 1) sc)
 have BF : Bel w ((w5.setCell ⟨w.heap.size, 0, none⟩ (.slice tA (m + 1) tc)).setCell ⟨w.heap.size, 1, none⟩ (.slice sA (m + 1) sc)) := ⟨(B5.out.setCell (p := ⟨w.heap.size, 0, none⟩) (Nat.le_refl _) _).setCell (p := ⟨w.heap.size, 1, none⟩) (Nat.le_refl _) _⟩
 have eZ1 : Ze ++ [nthN Zo 0] = Z1 := by rw [HZ1.out, RX.out.2]
 have eZ2 : Zo.set 0 0 ++ [0] = Z2 := by rw [HZ2.out, cn_zero]
 rw [eZ1, eZ2]
 refine bodyPost_ret (resVB (fn := Tryz.f40) rfl rfl rfl KF) rfl ⟨tA, tc, sA, sc, by rw [L1.out, L2.out], ?_, BF⟩
 rw [L1.out, L2.out]
 refine ⟨q1.rowF fun g hg => by have := own1 g hg; omega, q2.rowF fun g hg => by have := (own2 g hg).1; omega, ?_⟩
 intro b b' o o' n n' d d' e1 e2 _ _ hbb
 have h2 := own2 b' (by rw [e2]; rfl)
 exact h2.2.2 (by rw [e1]; show some b = some b'; rw [hbb])
theorem dBins {A : Option Addr} {c : Nat} {X : List Nat} (w : World) (T : Tab w) (hx : In w (.slice A X.length c) X) (hl : X.length ≤ 128) :
  Calls Tryz.prog 40 #[.slice A X.length c] w (MakesVB w (binsRe X) (binsIm X) (okR X.length)) := by
 unfold binsRe binsIm
 cases hb : okR X.length with
 | true =>
  obtain ⟨h1, h2, _⟩ := okR_pow hb
  have := two_half h2
  exact dBinsOk (m := 2 ^ (Nat.log2 X.length - 1)) w T hx (by rw [← this]; exact h1) (Nat.two_pow_pos _) hl hb
 | false => exact dBinsBad w T hl hb
end Y7
namespace Pj
open Ieee Go Go.RowKit Go.Proofs Go.Proofs.YtnbdoidccacdnaaGreatDoor Ow Dt Gp I0 U0 W0 S4 S6 P0 M0 M1 M2 M3 P4 P5 P6 P8 W4 W5 Pc Pe Pg
attribute [local go_sem ↓] Go.wp_at_zero Go.wp_at_succ
theorem wp_app_in {w : World} {o : Oper} {a : Act} {K : Act → World → Prop} {Q : Exit → Act → World → Prop} (s x : Operand) (ho : o.op = .call { callee := .builtin .append, args := #[s, x], argTypes := #[22, 22] })
  {g c : Nat} {A : Option Addr} {X : List Nat} (hs : a.eval s = .slice (some ⟨g, 0, none⟩) 0 0) (K0 : Blk w g 50 []) (hx : a.eval x = .slice A X.length c) (hin : In w (.slice A X.length c) X) (hl : X.length ≤ 100000)
  (h : ∀ A' c' w', RowF w' g (.slice A' X.length c') X → Gr g w w' → (X.length = 0 ∨ ∃ b, A' = some ⟨b, 0, none⟩ ∧ (b = g ∨ b = w.heap.size)) → K (a.put o.dst (.slice A' X.length c')) w') : o.wp Tryz.prog a w K Q := by
 obtain ⟨A1, c1, e, h2, h3, h4, h5⟩ := hin.out
 cases e
 rcases Nat.eq_zero_or_pos X.length with h0 | hp
 ·obtain rfl := List.length_eq_zero_iff.1 h0
  have fin := h (some ⟨g, 0, none⟩) 0 w (RowF.nil _ _ _ _ (by decide)) (Gr.refl _ _) (.inl rfl)
  cases A with
  | none =>
   obtain ⟨i, hi, hzz⟩ := Option.map_eq_some_iff.1 infoF
   have hrun : (Builtin.append_ #[22, 22] o.type #[.slice (some ⟨g, 0, none⟩) 0 0, .slice none 0 c]).run Tryz.prog w = .ok (.slice (some ⟨g, 0, none⟩) 0 0) w := by
    simp [Builtin.append_, run_underlying Tryz.underlying22, sizeOf, typeInfo, hi, storeCells, Builtin.lenOf, Builtin.firstCells]
   unfold Oper.wp
   simp [execOp, ho, resolve, invoke, builtin, hs, hx, hrun, Result.andThen]
   exact fin
  | some ad =>
   obtain ⟨i, hi, hzz⟩ := Option.map_eq_some_iff.1 infoF
   simp only [Prod.mk.injEq] at hzz
   obtain ⟨hz, hsz, hb⟩ := hzz
   have hrun : (Builtin.append_ #[22, 22] o.type #[.slice (some ⟨g, 0, none⟩) 0 0, .slice (some ad) 0 c]).run Tryz.prog w = .ok (.slice (some ⟨g, 0, none⟩) 0 0) w := by
    simp [Builtin.append_, run_underlying Tryz.underlying22, sizeOf, typeInfo, hi, storeCells, Builtin.lenOf, Builtin.firstCells, loadCells, loadCellsFrom]
   unfold Oper.wp
   simp [execOp, ho, resolve, invoke, builtin, hs, hx, hrun, Result.andThen]
   exact fin
 ·cases A with
  | none => have := h5 rfl; omega
  | some ad =>
   obtain ⟨cs, k1, k2, k3⟩ := Fr.news h4
   obtain ⟨i, hi, hzz⟩ := Option.map_eq_some_iff.1 infoF
   simp only [Prod.mk.injEq] at hzz
   obtain ⟨hz, hsz, hb⟩ := hzz
   have hown : w.ownsRow g 50 1 (.slice (some ⟨g, 0, none⟩) 0 0) 0 [] := ⟨rfl, .inr ⟨g, 0, #[], rfl, Nat.le_refl _, K0.out, Nat.le_refl _, by decide, rfl, rfl⟩⟩
   refine wp_append_lies w s x 22 ho g 50 i (.float .f64 0) 1 8 Tryz.underlying22 hi hz hsz hb rfl (by decide) _ 0 [] hs hown ad X.length c cs hx (by rw [k1]; omega) k2 (fc_one k3) hp (by simp only [maxLen]; omega) (by omega) (Nat.le_of_lt K0.lt) _ rfl ?_
   intro g' cap w' h6 h7 h8 h9
   rw [Nat.zero_add] at h6 ⊢
   rw [List.nil_append] at h6
   refine h _ _ _ (own_rowF ⟨h6⟩ rfl k3) ⟨h7.os, h7.tape, h7.output, h7.size, fun k hk hne => h7.block k hk (by simp only [Value.ownBlock]; exact fun q => hne (Option.some.inj q))⟩ (.inr ⟨g', rfl, ?_⟩)
   rcases h8 with h8 | h8
   ·simp only [Value.ownBlock] at h8; exact .inl (Option.some.inj h8).symm
   ·exact .inr h8
theorem Two.grow {w : World} {B c c' : Nat} {A A' : Option Addr} {X Y : List Nat} (h1 : RowF w B (.slice A X.length c) X) (h2 : RowF w B (.slice A' Y.length c') Y) (ne : ∀ b b' o o' n n' d d', (Value.slice A X.length c) = .slice (some ⟨b, o, none⟩) n d → (Value.slice A' Y.length c') = .slice (some ⟨b', o', none⟩) n' d' → 0 < X.length → 0 < Y.length → b ≠ b') :
  Two w B (.slice A X.length c) (.slice A' Y.length c') X Y := ⟨h1, h2, ne⟩
end Pj
namespace Pk
open Ieee Go Go.RowKit Go.Proofs Go.Proofs.YtnbdoidccacdnaaGreatDoor Ow Dt Gp I0 U0 W0 S4 S6 P0 M0 M1 M2 M3 P4 P5 P6 P8 W4 W5 Pc Pe Pg G1 G3 Pj
attribute [local go_sem ↓] Go.wp_at_zero Go.wp_at_succ
theorem take_succ_eq {X Y : List Nat} {i : Nat} (h : X.take i = Y.take i) (hx : i < X.length) (hy : i < Y.length) (e : nthN X i = nthN Y i) : X.take (i + 1) = Y.take (i + 1) := by
 rw [List.take_add_one, List.take_add_one, h, List.getElem?_eq_getElem hx, List.getElem?_eq_getElem hy]
 rw [nthN_lt hx, nthN_lt hy] at e
 rw [e]
theorem nth_ne {X Y : List Nat} {i : Nat} (h : nthN X i ≠ nthN Y i) : X ≠ Y := fun e => h (by rw [e])
theorem dSameRow {A B : Option Addr} {n m c c' : Nat} {X Y : List Nat} (W0 : World) (hx : Fr W0 A X) (hy : Fr W0 B Y) (hn : X.length = n) (hm : Y.length = m) (hl : n ≤ 100000) (hl' : m ≤ 100000) :
  Calls Tryz.prog 44 #[.slice A n c, .slice B m c'] W0 (fun e w' => e = .returned (.bool (decide (X = Y))) ∧ Bel W0 w') := by
 have FX := Ho.mk hx
 have FY := Ho.mk hy
 have HN := Ho.mk hn
 have HM := Ho.mk hm
 clear hx hy hn hm
 by_cases hnm : n = m
 ·subst hnm
  go_enter Tryz.func44, Tryz.ntmps44
  go_wp2_with fail
  go_loopw [5] (fun v wr => ∃ (i : Nat), i ≤ n ∧ v = .int .i64 i ∧ Ho (X.take i = Y.take i) ∧ Ho (Bel W0 wr)) (fun v _ => n - (intOf v).toNat)
  case atStart => exact ⟨0, Nat.zero_le _, rfl, ⟨by simp⟩, ⟨Bel.refl _⟩⟩
  case round =>
   obtain ⟨i, hi, rfl, HT, HW⟩ := hrel
   rcases Nat.lt_or_ge i n with hlt | hge
   ·obtain ⟨a1, r1, rfl, y1, l1, c1⟩ := FX.out.at_ (i := i) (by rw [HN.out]; exact hlt)
    obtain ⟨a2, r2, rfl, y2, l2, c2⟩ := FY.out.at_ (i := i) (by rw [HM.out]; exact hlt)
    have y1 := HW.out.cell y1
    have y2 := HW.out.cell y2
    have HC := Ho.mk (And.intro c1 c2)
    have HAL := Ho.mk (alike_cn l1 l2)
    clear c1 c2 l1 l2
    by_cases hc : cn r1 = cn r2
    ·have RS : Ho (∀ w, Calls Tryz.prog 93 #[.float .f64 r1, .float .f64 r2] w (Quiet w (.bool true))) := ⟨fun w => by have h := rsame_calls r1 r2 w; rw [HAL.out, decide_eq_true hc] at h; exact h⟩
     have HCC := Ho.mk hc
     clear hc
     go_upto_region 6 with fail
     refine wp_region_held_drew (S := fun w' => Bel wr w') (by kernel_rfl) (Bel.refl _).drew (fun hHeld => ?_)
     (try dsimp only at hHeld)
     generalize wr.drew = wd at *
     refine rt (i := 0) hHeld ?_
     refine rt (i := 1) hHeld ?_
     refine rt (i := 2) hHeld ?_
     refine rl (i := 3) (v := ?_) hHeld (fun w hSw => ?_) ?_
     rotate_left
     ·(have z0 := hSw.cell y1; have z1 := hSw.cell y2; go_simp; try (with_reducible rfl))
     refine rt (i := 4) hHeld ?_
     refine rt (i := 5) hHeld ?_
     refine rt (i := 6) hHeld ?_
     refine rl (i := 7) (v := ?_) hHeld (fun w hSw => ?_) ?_
     rotate_left
     ·(have z0 := hSw.cell y1; have z1 := hSw.cell y2; go_simp; try (with_reducible rfl))
     try simp only [Act.put, List.setIfInBounds_toArray, List.set_cons_zero, List.set_cons_succ]
     refine rc (i := 8) (fun K hK => ?_)
     go_simp
     go_at_call 93
     (with_reducible refine (RS.out _).mono ?_); rintro e v1 ⟨rfl, hz⟩
     have bv1 : Bel wd v1 := by rw [hz]; exact Bel.refl _
     clear hz
     try go_wp2_with fail
     refine hK.out _ _ (Bel.trans hHeld bv1) (fun hHeld => ?_)
     clear hK K
     clear bv1
     refine rt (i := 9) hHeld ?_
     try simp only [Act.put, List.setIfInBounds_toArray, List.set_cons_zero, List.set_cons_succ]
     refine wpAnyH_done (by kernel_rfl) ?_ _
     have HB := Ho.mk (HW.out.trans hHeld)
     clear hHeld
     go_wp2
     go_roundw
     case rel =>
      exact ⟨i + 1, by omega, by simp, ⟨take_succ_eq HT.out (by rw [HN.out]; exact hlt) (by rw [HM.out]; exact hlt) (by rw [← HC.out.1, ← HC.out.2]; exact HCC.out)⟩, HB⟩
     case measure => simp [intOf]; omega
    ·have RS : Ho (∀ w, Calls Tryz.prog 93 #[.float .f64 r1, .float .f64 r2] w (Quiet w (.bool false))) := ⟨fun w => by have h := rsame_calls r1 r2 w; rw [HAL.out, decide_eq_false hc] at h; exact h⟩
     have HCC := Ho.mk hc
     clear hc
     go_upto_region 6 with fail
     refine wp_region_held_drew (S := fun w' => Bel wr w') (by kernel_rfl) (Bel.refl _).drew (fun hHeld => ?_)
     (try dsimp only at hHeld)
     generalize wr.drew = wd at *
     refine rt (i := 0) hHeld ?_
     refine rt (i := 1) hHeld ?_
     refine rt (i := 2) hHeld ?_
     refine rl (i := 3) (v := ?_) hHeld (fun w hSw => ?_) ?_
     rotate_left
     ·(have z0 := hSw.cell y1; have z1 := hSw.cell y2; go_simp; try (with_reducible rfl))
     refine rt (i := 4) hHeld ?_
     refine rt (i := 5) hHeld ?_
     refine rt (i := 6) hHeld ?_
     refine rl (i := 7) (v := ?_) hHeld (fun w hSw => ?_) ?_
     rotate_left
     ·(have z0 := hSw.cell y1; have z1 := hSw.cell y2; go_simp; try (with_reducible rfl))
     try simp only [Act.put, List.setIfInBounds_toArray, List.set_cons_zero, List.set_cons_succ]
     refine rc (i := 8) (fun K hK => ?_)
     go_simp
     go_at_call 93
     (with_reducible refine (RS.out _).mono ?_); rintro e v1 ⟨rfl, hz⟩
     have bv1 : Bel wd v1 := by rw [hz]; exact Bel.refl _
     clear hz
     try go_wp2_with fail
     refine hK.out _ _ (Bel.trans hHeld bv1) (fun hHeld => ?_)
     clear hK K
     clear bv1
     refine rt (i := 9) hHeld ?_
     try simp only [Act.put, List.setIfInBounds_toArray, List.set_cons_zero, List.set_cons_succ]
     refine wpAnyH_done (by kernel_rfl) ?_ _
     have HB := Ho.mk (HW.out.trans hHeld)
     clear hHeld
     go_wp2
     go_ret
     exact ⟨by rw [decide_eq_false (nth_ne (i := i) (by rw [← HC.out.1, ← HC.out.2]; exact HCC.out))]; rfl, HB.out⟩
   ·obtain rfl : i = n := by omega
    go_wp2
    go_ret
    refine ⟨?_, HW.out⟩
    have := HT.out
    rw [List.take_of_length_le (by rw [HN.out]; exact Nat.le_refl _), List.take_of_length_le (by rw [HM.out]; exact Nat.le_refl _)] at this
    rw [decide_eq_true this]; rfl
 ·have hne : ¬ (n : Int) = (m : Int) := by omega
  go_enter Tryz.func44, Tryz.ntmps44
  go_wp2
  all_goals first
   | (exfalso; omega)
   | (go_ret; exact ⟨by rw [decide_eq_false (fun e => hnm (by rw [← HN.out, ← HM.out, e]))]; rfl, Bel.refl _⟩)
theorem dSameRowI {u v : Value} {X Y : List Nat} (w : World) (hx : In w u X) (hy : In w v Y) (hl : X.length ≤ 100000) (hl' : Y.length ≤ 100000) :
  Calls Tryz.prog 44 #[u, v] w (fun e w' => e = .returned (.bool (decide (X = Y))) ∧ Bel w w') := by
 obtain ⟨A, c, rfl, _, _, h1, _⟩ := hx.out
 obtain ⟨B, d, rfl, _, _, h2, _⟩ := hy.out
 exact dSameRow w h1 h2 rfl rfl hl hl'
theorem dSame {A1 B1 A2 B2 : Option Addr} {c1 d1 c2 d2 : Nat} {X1 Y1 X2 Y2 : List Nat} (w : World) (hx : In w (.slice A1 X1.length c1) X1) (hy : In w (.slice B1 Y1.length d1) Y1) (hx2 : In w (.slice A2 X2.length c2) X2) (hy2 : In w (.slice B2 Y2.length d2) Y2)
  (l1 : X1.length ≤ 100000) (l2 : Y1.length ≤ 100000) (l3 : X2.length ≤ 100000) (l4 : Y2.length ≤ 100000) :
  Calls Tryz.prog 21 #[.agg #[.slice A1 X1.length c1, .slice B1 Y1.length d1], .agg #[.slice A2 X2.length c2, .slice B2 Y2.length d2]] w (fun e w' => e = .returned (.bool (decide (X1 = X2 ∧ Y1 = Y2))) ∧ Bel w w') := by
 have S1 := Ho.mk (fun w' (g : Bel w w') => dSameRowI w' (hx.bel g) (hx2.bel g) l1 l3)
 have S2 := Ho.mk (fun w' (g : Bel w w') => dSameRowI w' (hy.bel g) (hy2.bel g) l2 l4)
 have KV := Ho.mk ((Blk.new w [.slice A1 X1.length c1, .slice B1 Y1.length d1] 24).old (.cells #[.slice A2 X2.length c2, .slice B2 Y2.length d2] 24))
 have KU := Ho.mk (Blk.new (w.alloc (.cells #[.slice A1 X1.length c1, .slice B1 Y1.length d1] 24)) [.slice A2 X2.length c2, .slice B2 Y2.length d2] 24)
 have g0 := Ho.mk (((Bel.refl w).alloc (.cells #[.slice A1 X1.length c1, .slice B1 Y1.length d1] 24)).alloc (.cells #[.slice A2 X2.length c2, .slice B2 Y2.length d2] 24))
 rw [World.size_alloc] at KU
 clear hx hy hx2 hy2
 go_enter Tryz.func21, Tryz.ntmps21
 go_upto_region 1 with fail
 generalize (w.alloc (.cells #[.slice A1 X1.length c1, .slice B1 Y1.length d1] 24)).alloc (.cells #[.slice A2 X2.length c2, .slice B2 Y2.length d2] 24) = W at *
 have y0 := KV.out.cell (i := 0) rfl
 have y1 := KV.out.cell (i := 1) rfl
 have y2 := KU.out.cell (i := 0) rfl
 have y3 := KU.out.cell (i := 1) rfl
 by_cases e1 : X1 = X2
 ·have d1' : decide (X1 = X2 ∧ Y1 = Y2) = decide (Y1 = Y2) := by simp [e1]
  have d2' : decide (X1 = X2) = true := decide_eq_true e1
  have D1 := Ho.mk d1'
  rw [d2'] at S1
  clear d1' d2' e1
  go_wp2_with (first | (go_at_call 44; first | ((with_reducible refine (S1.out _ g0.out).mono ?_); rintro e w1 ⟨rfl, b1⟩; have y0 := b1.cell y0; have y1 := b1.cell y1; have y2 := b1.cell y2; have y3 := b1.cell y3) | ((with_reducible refine (S2.out _ (g0.out.trans b1)).mono ?_); rintro e w2 ⟨rfl, b2⟩)) | fail)
  go_ret
  exact ⟨by rw [D1.out]; rfl, (g0.out.trans b1).trans b2⟩
 ·have d1' : decide (X1 = X2 ∧ Y1 = Y2) = false := by simp [e1]
  have d2' : decide (X1 = X2) = false := decide_eq_false e1
  have D1 := Ho.mk d1'
  rw [d2'] at S1
  clear d1' d2' e1
  go_wp2_with (go_at_call 44; (with_reducible refine (S1.out _ g0.out).mono ?_); rintro e w1 ⟨rfl, b1⟩)
  go_ret
  exact ⟨by rw [D1.out]; rfl, g0.out.trans b1⟩
end Pk
namespace Pm
open Ieee Go Go.RowKit Go.Proofs Go.Proofs.YtnbdoidccacdnaaGreatDoor Ow I0 P0 P4 Pg
attribute [local go_sem ↓] Go.wp_at_zero Go.wp_at_succ
theorem logI_none {n : Nat} (h : ∀ q, q < 11 → n ≠ 2 ^ q) : logI n = -1 := by
 unfold logI
 refine if_neg fun q => ?_
 refine h (Nat.log2 n) ?_ q.2.1.symm
 apply Nat.lt_of_not_le; intro c
 have : 2 ^ 11 ≤ 2 ^ Nat.log2 n := Nat.pow_le_pow_right (by omega) c
 have := q.2.2
 have := q.2.1
 omega
theorem dPow {n : Nat} (w : World) (h : n ≤ 1024) : Calls Tryz.prog 29 #[.int .i64 (n : Int), .int .i64 10] w fun e w' => e = .returned (.int .i64 (logI n)) ∧ Bel w w' := by
 obtain ⟨k, hk⟩ : ∃ k : Int, k = (n : Int) := ⟨_, rfl⟩
 have HK := Ho.mk hk
 have HN := Ho.mk h
 rw [← hk]
 clear hk h
 go_enter Tryz.func29, Tryz.ntmps29
 go_wp2_with fail
 go_loopw [5] (fun v wr => ∃ (i : Nat), i ≤ 11 ∧ v = .int .i64 i ∧ Ho (∀ q, q < i → n ≠ 2 ^ q) ∧ Ho (Bel w wr)) (fun v _ => 11 - (intOf v).toNat)
 case atStart => exact ⟨0, Nat.zero_le _, rfl, ⟨fun q hq => absurd hq (Nat.not_lt_zero _)⟩, ⟨Bel.refl _⟩⟩
 case round =>
  obtain ⟨i, hi, rfl, HT, HW⟩ := hrel
  have hc : i = 0 ∨ i = 1 ∨ i = 2 ∨ i = 3 ∨ i = 4 ∨ i = 5 ∨ i = 6 ∨ i = 7 ∨ i = 8 ∨ i = 9 ∨ i = 10 ∨ i = 11 := by omega
  clear hi
  rcases hc with rfl | rfl | rfl | rfl | rfl | rfl | rfl | rfl | rfl | rfl | rfl | rfl
  ·by_cases hc : k = 1
   ·have LE := Ho.mk (show logI n = 0 by rw [(by have := HK.out; omega : n = 1)]; decide)
    go_wp2
    go_ret
    exact ⟨by rw [LE.out]; rfl, HW.out⟩
   ·have HC := Ho.mk hc
    go_wp2
    go_roundw
    case rel => exact ⟨1, by omega, rfl, ⟨fun q hq => by have := HT.out q; have := HC.out; have := HK.out; rcases Nat.lt_or_ge q 0 with l | l; exact HT.out q l; rw [show q = 0 by omega]; omega⟩, HW⟩
    case measure => simp [intOf]
  ·by_cases hc : k = 2
   ·have LE := Ho.mk (show logI n = 1 by rw [(by have := HK.out; omega : n = 2)]; decide)
    go_wp2
    go_ret
    exact ⟨by rw [LE.out]; rfl, HW.out⟩
   ·have HC := Ho.mk hc
    go_wp2
    go_roundw
    case rel => exact ⟨2, by omega, rfl, ⟨fun q hq => by have := HT.out q; have := HC.out; have := HK.out; rcases Nat.lt_or_ge q 1 with l | l; exact HT.out q l; rw [show q = 1 by omega]; omega⟩, HW⟩
    case measure => simp [intOf]
  ·by_cases hc : k = 4
   ·have LE := Ho.mk (show logI n = 2 by rw [(by have := HK.out; omega : n = 4)]; decide)
    go_wp2
    go_ret
    exact ⟨by rw [LE.out]; rfl, HW.out⟩
   ·have HC := Ho.mk hc
    go_wp2
    go_roundw
    case rel => exact ⟨3, by omega, rfl, ⟨fun q hq => by have := HT.out q; have := HC.out; have := HK.out; rcases Nat.lt_or_ge q 2 with l | l; exact HT.out q l; rw [show q = 2 by omega]; omega⟩, HW⟩
    case measure => simp [intOf]
  ·by_cases hc : k = 8
   ·have LE := Ho.mk (show logI n = 3 by rw [(by have := HK.out; omega : n = 8)]; decide)
    go_wp2
    go_ret
    exact ⟨by rw [LE.out]; rfl, HW.out⟩
   ·have HC := Ho.mk hc
    go_wp2
    go_roundw
    case rel => exact ⟨4, by omega, rfl, ⟨fun q hq => by have := HT.out q; have := HC.out; have := HK.out; rcases Nat.lt_or_ge q 3 with l | l; exact HT.out q l; rw [show q = 3 by omega]; omega⟩, HW⟩
    case measure => simp [intOf]
  ·by_cases hc : k = 16
   ·have LE := Ho.mk (show logI n = 4 by rw [(by have := HK.out; omega : n = 16)]; decide)
    go_wp2
    go_ret
    exact ⟨by rw [LE.out]; rfl, HW.out⟩
   ·have HC := Ho.mk hc
    go_wp2
    go_roundw
    case rel => exact ⟨5, by omega, rfl, ⟨fun q hq => by have := HT.out q; have := HC.out; have := HK.out; rcases Nat.lt_or_ge q 4 with l | l; exact HT.out q l; rw [show q = 4 by omega]; omega⟩, HW⟩
    case measure => simp [intOf]
  ·by_cases hc : k = 32
   ·have LE := Ho.mk (show logI n = 5 by rw [(by have := HK.out; omega : n = 32)]; decide)
    go_wp2
    go_ret
    exact ⟨by rw [LE.out]; rfl, HW.out⟩
   ·have HC := Ho.mk hc
    go_wp2
    go_roundw
    case rel => exact ⟨6, by omega, rfl, ⟨fun q hq => by have := HT.out q; have := HC.out; have := HK.out; rcases Nat.lt_or_ge q 5 with l | l; exact HT.out q l; rw [show q = 5 by omega]; omega⟩, HW⟩
    case measure => simp [intOf]
  ·by_cases hc : k = 64
   ·have LE := Ho.mk (show logI n = 6 by rw [(by have := HK.out; omega : n = 64)]; decide)
    go_wp2
    go_ret
    exact ⟨by rw [LE.out]; rfl, HW.out⟩
   ·have HC := Ho.mk hc
    go_wp2
    go_roundw
    case rel => exact ⟨7, by omega, rfl, ⟨fun q hq => by have := HT.out q; have := HC.out; have := HK.out; rcases Nat.lt_or_ge q 6 with l | l; exact HT.out q l; rw [show q = 6 by omega]; omega⟩, HW⟩
    case measure => simp [intOf]
  ·by_cases hc : k = 128
   ·have LE := Ho.mk (show logI n = 7 by rw [(by have := HK.out; omega : n = 128)]; decide)
    go_wp2
    go_ret
    exact ⟨by rw [LE.out]; rfl, HW.out⟩
   ·have HC := Ho.mk hc
    go_wp2
    go_roundw
    case rel => exact ⟨8, by omega, rfl, ⟨fun q hq => by have := HT.out q; have := HC.out; have := HK.out; rcases Nat.lt_or_ge q 7 with l | l; exact HT.out q l; rw [show q = 7 by omega]; omega⟩, HW⟩
    case measure => simp [intOf]
  ·by_cases hc : k = 256
   ·have LE := Ho.mk (show logI n = 8 by rw [(by have := HK.out; omega : n = 256)]; decide)
    go_wp2
    go_ret
    exact ⟨by rw [LE.out]; rfl, HW.out⟩
   ·have HC := Ho.mk hc
    go_wp2
    go_roundw
    case rel => exact ⟨9, by omega, rfl, ⟨fun q hq => by have := HT.out q; have := HC.out; have := HK.out; rcases Nat.lt_or_ge q 8 with l | l; exact HT.out q l; rw [show q = 8 by omega]; omega⟩, HW⟩
    case measure => simp [intOf]
  ·by_cases hc : k = 512
   ·have LE := Ho.mk (show logI n = 9 by rw [(by have := HK.out; omega : n = 512)]; decide)
    go_wp2
    go_ret
    exact ⟨by rw [LE.out]; rfl, HW.out⟩
   ·have HC := Ho.mk hc
    go_wp2
    go_roundw
    case rel => exact ⟨10, by omega, rfl, ⟨fun q hq => by have := HT.out q; have := HC.out; have := HK.out; rcases Nat.lt_or_ge q 9 with l | l; exact HT.out q l; rw [show q = 9 by omega]; omega⟩, HW⟩
    case measure => simp [intOf]
  ·by_cases hc : k = 1024
   ·have LE := Ho.mk (show logI n = 10 by rw [(by have := HK.out; omega : n = 1024)]; decide)
    go_wp2
    go_ret
    exact ⟨by rw [LE.out]; rfl, HW.out⟩
   ·have HC := Ho.mk hc
    go_wp2
    go_roundw
    case rel => exact ⟨11, by omega, rfl, ⟨fun q hq => by have := HT.out q; have := HC.out; have := HK.out; rcases Nat.lt_or_ge q 10 with l | l; exact HT.out q l; rw [show q = 10 by omega]; omega⟩, HW⟩
    case measure => simp [intOf]
  ·go_wp2
   go_ret
   exact ⟨by rw [logI_none HT.out]; rfl, HW.out⟩
end Pm
namespace Y8
open Ieee Go Go.RowKit Go.Proofs Go.Proofs.YtnbdoidccacdnaaGreatDoor Ow Dt Gp I0 U0 W0 S4 S6 P0 M0 M1 M3 W4 W5 V2 P4 Y3 Yh Y4 Y1 P8 Pc Y5 Y6 Y7
open Go.Proofs.YtnbdoidccacdnaaGreatDoor.V1 (NI St ni_same ni_loop St.refl St.of_bel blk_keep ni_blk put_st)
open Go.Proofs.YtnbdoidccacdnaaGreatDoor.C6 (leaveAny)
open Go.Proofs.YtnbdoidccacdnaaGreatDoor.Pg (In)
attribute [local go_sem ↓] Go.wp_at_zero Go.wp_at_succ
theorem eq0 {r : Nat} (h : r < 2 * sgnW) : (FloatKind.f64.format.order r 0 == some .eq) = decide (cn r = 0) := by
 have h1 := alike_cn h (show 0 < 2 * sgnW by decide)
 rw [cn_zero] at h1
 unfold G3.alike at h1
 have h2 : (FloatKind.f64.format.order 0 0 != some .eq) = false := by decide +kernel
 rw [h2, Bool.and_false, Bool.or_false] at h1
 exact h1
theorem gr_cell {b : Nat} {w w' : World} (g : Gr b w w') {p : Addr} {v : Value} (hc : w.cell? p = some v) (hn : p.block ≠ b) : w'.cell? p = some v := by
 have hlt := World.block_lt_of_cell? w p hc
 unfold World.cell? at hc ⊢
 rw [g.block p.block hlt hn]; exact hc
def logZ (k : Int) : Int := if k < 0 then -1 else logI k.toNat
theorem dLogN {k : Int} (w : World) (h : -1000 ≤ k ∧ k < 1100) (T : Tab w) : Calls Tryz.prog 77 #[.int .i64 k] w fun e w' => e = .returned (.int .i64 (logZ k)) ∧ w = w' := by
 by_cases hk : k < 0
 ·rw [show logZ k = -1 by unfold logZ; rw [if_pos hk]]
  have hk1 : k < 1 := by omega
  clear T
  go_enter Tryz.func77, Tryz.ntmps77
  go_wp2
  go_ret
  exact ⟨rfl, rfl⟩
 ·have := dLogR (n := k.toNat) rfl w (by omega) T
  rw [show ((k.toNat : Nat) : Int) = k by omega] at this
  rw [show logZ k = logI k.toNat by unfold logZ; rw [if_neg hk]]
  exact this
def packRow (X Y : List Nat) (m : Nat) (i : Nat) : Nat := if i = 0 then nthN X 0 else if i = 1 then nthN X m else if i % 2 = 0 then nthN X (i / 2) else nthN Y (i / 2)
def packN (X Y : List Nat) : List Nat := (List.range (2 * (X.length - 1))).map (packRow X Y (X.length - 1))
def okK (X Y : List Nat) : Bool := decide (X.length = Y.length ∧ X.length ≠ 0 ∧ 0 ≤ logI (X.length - 1) ∧ nthN Y 0 = 0 ∧ nthN Y (X.length - 1) = 0)
def pkR (X Y : List Nat) : List Nat := if okK X Y then packN X Y else []
def MakesRB (w : World) (Z : List Nat) (z : Bool) (e : Ending) (w' : World) : Prop := ∃ A c, e = .returned (.tuple #[.slice A Z.length c, .bool z]) ∧ RowF w' w.heap.size (.slice A Z.length c) Z ∧ Bel w w'
theorem packBad1 {A B : Option Addr} {c d n n' : Nat} (w : World) (hl : n ≤ 128) (hl' : n' ≤ 128) (hne : n ≠ n') : Calls Tryz.prog 42 #[.agg #[.slice A n c, .slice B n' d]] w (MakesRB w [] false) := by
 have H := Ho.mk ((Hp.nil (Bel.refl w)).box [.slice A n c, .slice B n' d] 24)
 go_enter Tryz.func42, Tryz.ntmps42
 go_upto_region 1 with fail
 generalize w.alloc (.cells #[.slice A n c, .slice B n' d] 24) = w0 at *
 have y0 := (H.out.blk 0 rfl).cell (i := 0) rfl
 have y1 := (H.out.blk 0 rfl).cell (i := 1) rfl
 have ne : ¬ (n' : Int) = (n : Int) - 1 + 1 := by omega
 have ne2 : ¬ n' = n := fun e => hne e.symm
 go_wp2
 go_ret2
 exact ⟨none, 0, rfl, RowF.nil _ _ _ _ (by decide), H.out.bel⟩
theorem packBad2 {A B : Option Addr} {c d n : Nat} {X Y : List Nat} (w : World) (T : Tab w) (hx : In w (.slice A n c) X) (hy : In w (.slice B n d) Y) (hX : X.length = n) (hY : Y.length = n) (hl : n ≤ 128) (h0 : n = 0 ∨ logI (n - 1) < 0) : Calls Tryz.prog 42 #[.agg #[.slice A n c, .slice B n d]] w (MakesRB w [] false) := by
 have H := Ho.mk ((Hp.nil (Bel.refl w)).box [.slice A n c, .slice B n d] 24)
 have TT := Ho.mk (T.bel H.out.bel)
 have HX := Ho.mk (hx.bel H.out.bel)
 have HY := Ho.mk (hy.bel H.out.bel)
 have HXL := Ho.mk hX
 have HYL := Ho.mk hY
 clear T hx hy hX hY
 have LG := Ho.mk (dLogN (k := (n : Int) - 1) (w.alloc (.cells #[.slice A n c, .slice B n d] 24)) (by omega) TT.out)
 obtain ⟨z, hz⟩ : ∃ z, z = logZ ((n : Int) - 1) := ⟨_, rfl⟩
 have hz0 : z < 0 := by
  rw [hz]; unfold logZ
  rcases h0 with h0 | h0
  ·rw [if_pos (by omega)]; decide
  ·split
   ·decide
   ·rw [show ((n : Int) - 1).toNat = n - 1 by omega]; exact h0
 rw [← hz] at LG
 clear hz h0
 go_enter Tryz.func42, Tryz.ntmps42
 go_upto_region 1 with fail
 generalize w.alloc (.cells #[.slice A n c, .slice B n d] 24) = w0 at *
 have y0 := (H.out.blk 0 rfl).cell (i := 0) rfl
 have y1 := (H.out.blk 0 rfl).cell (i := 1) rfl
 go_wp2_with fail
 (with_reducible refine LG.out.mono ?_); rintro e w1 ⟨rfl, rfl⟩
 go_wp2
 go_ret2
 exact ⟨none, 0, rfl, RowF.nil _ _ _ _ (by decide), H.out.bel⟩
theorem in_at {w : World} {ad : Addr} {n c i : Nat} {X : List Nat} (h : In w (.slice (some ad) n c) X) (hi : i < X.length) : ∃ r, w.cell? (ad.add i) = some (.float .f64 r) ∧ r < 2 * sgnW ∧ cn r = nthN X i := by
 obtain ⟨A1, c1, e, _, _, k, _⟩ := h.out
 cases e
 obtain ⟨ad', v, e, hc, r, rfl, h1, h2⟩ := k.cell i hi
 cases e
 exact ⟨r, hc, h1, h2⟩
theorem in_some {w : World} {A : Option Addr} {n c : Nat} {X : List Nat} (h : In w (.slice A n c) X) (hp : 0 < X.length) : ∃ ad, A = some ad := by
 obtain ⟨A1, c1, e, _, _, k, _⟩ := h.out
 obtain ⟨ad, _, e2, _⟩ := k.cell 0 hp
 simp only [Value.slice.injEq] at e
 exact ⟨ad, e.1.trans e2⟩
theorem ne_no {r : Nat} (h : (FloatKind.f64.format.order r 0 == some .eq) = true) : (FloatKind.f64.format.order r 0 != some .eq) = false := by simp [bne, h]
theorem ne_yes {r : Nat} (h : (FloatKind.f64.format.order r 0 == some .eq) = false) : (FloatKind.f64.format.order r 0 != some .eq) = true := by simp [bne, h]
theorem in_lt {w : World} {ad : Addr} {n c : Nat} {X : List Nat} (h : In w (.slice (some ad) n c) X) (hi : 0 < X.length) : ad.block < w.heap.size := by
 obtain ⟨r, h1, _⟩ := in_at h hi
 have := World.block_lt_of_cell? w _ h1
 rwa [add_block] at this
theorem add_zero' (ad : Addr) : ad.add 0 = ad := by simp [Addr.add]
theorem packBad3 {A B : Option Addr} {c d m : Nat} {X Y : List Nat} (w : World) (T : Tab w) (hx : In w (.slice A (m + 1) c) X) (hy : In w (.slice B (m + 1) d) Y) (hX : X.length = m + 1) (hY : Y.length = m + 1) (hl : m + 1 ≤ 128) (hlog : 0 ≤ logI m) (h0 : nthN Y 0 ≠ 0) : Calls Tryz.prog 42 #[.agg #[.slice A (m + 1) c, .slice B (m + 1) d]] w (MakesRB w [] false) := by
 have H := Ho.mk ((Hp.nil (Bel.refl w)).box [.slice A (m + 1) c, .slice B (m + 1) d] 24)
 have TT := Ho.mk (T.bel H.out.bel)
 have HX := Ho.mk (hx.bel H.out.bel)
 have HY := Ho.mk (hy.bel H.out.bel)
 have HXL := Ho.mk hX
 have HYL := Ho.mk hY
 have LG := Ho.mk (dLogN (k := (m : Int)) (w.alloc (.cells #[.slice A (m + 1) c, .slice B (m + 1) d] 24)) (by omega) TT.out)
 obtain ⟨z, hz⟩ : ∃ z, z = logZ (m : Int) := ⟨_, rfl⟩
 have hz0 : 0 ≤ z := by rw [hz]; unfold logZ; rw [if_neg (by omega), Int.toNat_natCast]; exact hlog
 have hz1 : z ≠ 10 := by
  rw [hz]; unfold logZ; rw [if_neg (by omega), Int.toNat_natCast]
  unfold logI
  split
  ·rename_i q
   intro e
   have : Nat.log2 m = 10 := by omega
   rw [this] at q
   omega
  ·decide
 rw [← hz] at LG
 have hz3 : decide (z < 0) = false := decide_eq_false (by omega)
 have hz4 : (z == 10) = false := by simp [hz1]
 obtain ⟨adX, hA⟩ := in_some hx (by omega)
 obtain ⟨adY, hB⟩ := in_some hy (by omega)
 subst hA; subst hB
 clear T hx hy hX hY hz hlog
 go_enter Tryz.func42, Tryz.ntmps42
 go_upto_region 1 with fail
 generalize w.alloc (.cells #[.slice (some adX) (m + 1) c, .slice (some adY) (m + 1) d] 24) = w0 at *
 have y0 := (H.out.blk 0 rfl).cell (i := 0) rfl
 have y1 := (H.out.blk 0 rfl).cell (i := 1) rfl
 have m0 : 0 < m + 1 := Nat.succ_pos m
 obtain ⟨r0, yr0, lr0, cr0⟩ := in_at HY.out (i := 0) (by have := HYL.out; omega)
 have yq0 := yr0
 rw [add_zero'] at yq0
 have e0 : (FloatKind.f64.format.order r0 0 == some .eq) = false := by rw [eq0 lr0, cr0]; exact decide_eq_false h0
 replace e0 := ne_yes e0
 clear cr0 lr0
 go_wp2_with fail
 (with_reducible refine LG.out.mono ?_); rintro e w1 ⟨rfl, rfl⟩
 go_wp2_with fail
 (with_reducible refine LG.out.mono ?_); rintro e w1 ⟨rfl, rfl⟩
 go_wp2
 go_ret2
 exact ⟨none, 0, rfl, RowF.nil _ _ _ _ (by decide), H.out.bel⟩
theorem packBad4 {A B : Option Addr} {c d m : Nat} {X Y : List Nat} (w : World) (T : Tab w) (hx : In w (.slice A (m + 1) c) X) (hy : In w (.slice B (m + 1) d) Y) (hX : X.length = m + 1) (hY : Y.length = m + 1) (hl : m + 1 ≤ 128) (hlog : 0 ≤ logI m) (h0 : nthN Y 0 = 0) (h1 : nthN Y m ≠ 0) : Calls Tryz.prog 42 #[.agg #[.slice A (m + 1) c, .slice B (m + 1) d]] w (MakesRB w [] false) := by
 have H := Ho.mk ((Hp.nil (Bel.refl w)).box [.slice A (m + 1) c, .slice B (m + 1) d] 24)
 have TT := Ho.mk (T.bel H.out.bel)
 have HX := Ho.mk (hx.bel H.out.bel)
 have HY := Ho.mk (hy.bel H.out.bel)
 have HXL := Ho.mk hX
 have HYL := Ho.mk hY
 have LG := Ho.mk (dLogN (k := (m : Int)) (w.alloc (.cells #[.slice A (m + 1) c, .slice B (m + 1) d] 24)) (by omega) TT.out)
 obtain ⟨z, hz⟩ : ∃ z, z = logZ (m : Int) := ⟨_, rfl⟩
 have hz0 : 0 ≤ z := by rw [hz]; unfold logZ; rw [if_neg (by omega), Int.toNat_natCast]; exact hlog
 have hz1 : z ≠ 10 := by
  rw [hz]; unfold logZ; rw [if_neg (by omega), Int.toNat_natCast]
  unfold logI
  split
  ·rename_i q
   intro e
   have : Nat.log2 m = 10 := by omega
   rw [this] at q
   omega
  ·decide
 rw [← hz] at LG
 have hz3 : decide (z < 0) = false := decide_eq_false (by omega)
 have hz4 : (z == 10) = false := by simp [hz1]
 obtain ⟨adX, hA⟩ := in_some hx (by omega)
 obtain ⟨adY, hB⟩ := in_some hy (by omega)
 subst hA; subst hB
 clear T hx hy hX hY hz hlog
 go_enter Tryz.func42, Tryz.ntmps42
 go_upto_region 1 with fail
 generalize w.alloc (.cells #[.slice (some adX) (m + 1) c, .slice (some adY) (m + 1) d] 24) = w0 at *
 have y0 := (H.out.blk 0 rfl).cell (i := 0) rfl
 have y1 := (H.out.blk 0 rfl).cell (i := 1) rfl
 have m0 : 0 < m + 1 := Nat.succ_pos m
 obtain ⟨r0, yr0, lr0, cr0⟩ := in_at HY.out (i := 0) (by have := HYL.out; omega)
 have yq0 := yr0
 rw [add_zero'] at yq0
 obtain ⟨r1, yr1, lr1, cr1⟩ := in_at HY.out (i := m) (by have := HYL.out; omega)
 have e0 : (FloatKind.f64.format.order r0 0 == some .eq) = true := by rw [eq0 lr0, cr0]; exact decide_eq_true h0
 replace e0 := ne_no e0
 clear cr0 lr0
 have hm2 : m < m + 1 := Nat.lt_succ_self m
 have e1 : (FloatKind.f64.format.order r1 0 == some .eq) = false := by rw [eq0 lr1, cr1]; exact decide_eq_false h1
 replace e1 := ne_yes e1
 clear cr1 lr1
 go_wp2_with fail
 (with_reducible refine LG.out.mono ?_); rintro e w1 ⟨rfl, rfl⟩
 go_wp2_with fail
 (with_reducible refine LG.out.mono ?_); rintro e w1 ⟨rfl, rfl⟩
 go_wp2
 go_ret2
 exact ⟨none, 0, rfl, RowF.nil _ _ _ _ (by decide), H.out.bel⟩
theorem packOk {A B : Option Addr} {c d m : Nat} {X Y : List Nat} (w : World) (T : Tab w) (hx : In w (.slice A (m + 1) c) X) (hy : In w (.slice B (m + 1) d) Y) (hX : X.length = m + 1) (hY : Y.length = m + 1) (hl : m + 1 ≤ 128) (hlog : 0 ≤ logI m) (h0 : nthN Y 0 = 0) (h1 : nthN Y m = 0) (hm1 : 1 ≤ m) : Calls Tryz.prog 42 #[.agg #[.slice A (m + 1) c, .slice B (m + 1) d]] w (MakesRB w (packN X Y) true) := by
 obtain ⟨pf, hpf⟩ : ∃ pf : Nat → Nat, pf = fun i => if i % 2 = 0 then nthN X (i / 2) else nthN Y (i / 2) := ⟨_, rfl⟩
 have HPF := Ho.mk hpf
 clear hpf
 have H := Ho.mk ((Hp.nil (Bel.refl w)).box [.slice A (m + 1) c, .slice B (m + 1) d] 24)
 have TT := Ho.mk (T.bel H.out.bel)
 have HX := Ho.mk (hx.bel H.out.bel)
 have HY := Ho.mk (hy.bel H.out.bel)
 have HXL := Ho.mk hX
 have HYL := Ho.mk hY
 have LG := Ho.mk (dLogN (k := (m : Int)) (w.alloc (.cells #[.slice A (m + 1) c, .slice B (m + 1) d] 24)) (by omega) TT.out)
 obtain ⟨z, hz⟩ : ∃ z, z = logZ (m : Int) := ⟨_, rfl⟩
 have hz0 : 0 ≤ z := by rw [hz]; unfold logZ; rw [if_neg (by omega), Int.toNat_natCast]; exact hlog
 have hz1 : z ≠ 10 := by
  rw [hz]; unfold logZ; rw [if_neg (by omega), Int.toNat_natCast]
  unfold logI
  split
  ·rename_i q
   intro e
   have : Nat.log2 m = 10 := by omega
   rw [this] at q
   omega
  ·decide
 rw [← hz] at LG
 have hz3 : decide (z < 0) = false := decide_eq_false (by omega)
 have hz4 : (z == 10) = false := by simp [hz1]
 obtain ⟨adX, hA⟩ := in_some hx (by omega)
 obtain ⟨adY, hB⟩ := in_some hy (by omega)
 subst hA; subst hB
 clear T hx hy hX hY hz hlog
 go_enter Tryz.func42, Tryz.ntmps42
 go_upto_region 1 with fail
 generalize w.alloc (.cells #[.slice (some adX) (m + 1) c, .slice (some adY) (m + 1) d] 24) = w0 at *
 have y0 := (H.out.blk 0 rfl).cell (i := 0) rfl
 have y1 := (H.out.blk 0 rfl).cell (i := 1) rfl
 have m0 : 0 < m + 1 := Nat.succ_pos m
 obtain ⟨r0, yr0, lr0, cr0⟩ := in_at HY.out (i := 0) (by have := HYL.out; omega)
 have yq0 := yr0
 rw [add_zero'] at yq0
 obtain ⟨r1, yr1, lr1, cr1⟩ := in_at HY.out (i := m) (by have := HYL.out; omega)
 have e0 : (FloatKind.f64.format.order r0 0 == some .eq) = true := by rw [eq0 lr0, cr0]; exact decide_eq_true h0
 replace e0 := ne_no e0
 clear cr0 lr0
 have hm2 : m < m + 1 := Nat.lt_succ_self m
 have e1 : (FloatKind.f64.format.order r1 0 == some .eq) = true := by rw [eq0 lr1, cr1]; exact decide_eq_true h1
 replace e1 := ne_no e1
 clear cr1 lr1
 go_wp2_with fail
 (with_reducible refine LG.out.mono ?_); rintro e w1 ⟨rfl, rfl⟩
 go_wp2_with fail
 (with_reducible refine LG.out.mono ?_); rintro e w1 ⟨rfl, rfl⟩
 go_wp2_with (at_make; refine wpList_mk _ rfl _ _ 97 rfl 50 (.float .f64 0) 8 Tryz.underlying97 infoF rfl (2 * m) rfl rfl (by omega) (by omega) ?_; intro w5 hk5 hb5 hs5)
 have FK := Ho.mk (show Fk w5 w0.heap.size (upTo pf (2 * m) 0) by rw [upTo_zero]; exact fk_zero hk5)
 have GB := Ho.mk hb5
 have l0 := H.out.bel.size
 have nX : adX.block ≠ w0.heap.size := by have := in_lt HX.out (by have := HXL.out; omega); omega
 have nY : adY.block ≠ w0.heap.size := by have := in_lt HY.out (by have := HYL.out; omega); omega
 have nZ : w.heap.size ≠ w0.heap.size := by have := (H.out.blk 0 rfl).lt; omega
 clear hk5 hb5 hs5 e0 e1 yr0 yq0 yr1 y0 y1
 obtain ⟨bo, hbo⟩ : ∃ bo, bo = w0.heap.size := ⟨_, rfl⟩
 rw [← hbo] at FK nX nY nZ ⊢
 have LBO := Ho.mk (show w.heap.size ≤ bo by omega)
 clear hbo
 go_loopw [46] (fun v wr => ∃ (i : Nat), i ≤ m ∧ v = .int .i64 i ∧ Ho (Fk wr bo (upTo pf (2 * m) (2 * i))) ∧ Ho (Gr bo w5 wr)) (fun v _ => m - (intOf v).toNat)
 case atStart => exact ⟨0, Nat.zero_le _, rfl, FK, ⟨Gr.refl _ _⟩⟩
 case round =>
  clear FK
  obtain ⟨i, hi, rfl, FK, HG⟩ := hrel
  have KZ := Ho.mk (HG.out.blk ((H.out.grow GB.out).blk 0 rfl) nZ)
  have y0 := KZ.out.cell (i := 0) rfl
  have y1 := KZ.out.cell (i := 1) rfl
  have n0 : (⟨w.heap.size, 0, none⟩ : Addr).block ≠ bo := nZ
  have n1 : (⟨w.heap.size, 1, none⟩ : Addr).block ≠ bo := nZ
  have nxa : ∀ j, (adX.add j).block ≠ bo := fun j => by rw [add_block]; exact nX
  have nya : ∀ j, (adY.add j).block ≠ bo := fun j => by rw [add_block]; exact nY
  rcases Nat.lt_or_ge i m with hlt | hge
  ·obtain ⟨rx, yx, lx, cx⟩ := in_at (HX.out.bel GB.out) (i := i) (by have := HXL.out; omega)
   obtain ⟨ry, yy, ly, cy⟩ := in_at (HY.out.bel GB.out) (i := i) (by have := HYL.out; omega)
   replace yx := gr_cell HG.out yx (nxa i)
   replace yy := gr_cell HG.out yy (nya i)
   have nx := nxa i
   have ny := nya i
   have WX := Ho.mk (And.intro lx cx)
   have WY := Ho.mk (And.intro ly cy)
   have hi4 : (i : Int) < (m : Int) + 1 := by omega
   clear lx cx ly cy nxa nya
   go_upto_region 8 with fail
   refine wp_region_held_drew (S := fun w' => Gr bo wr w') (by kernel_rfl) (Gr.refl bo wr).drew (fun hHeld => ?_)
   (try dsimp only at hHeld)
   refine rt (i := 0) hHeld ?_
   refine rt (i := 1) hHeld ?_
   refine rt (i := 2) hHeld ?_
   refine rl (i := 3) (v := ?_) hHeld (fun w' hSw => ?_) ?_
   rotate_left
   ·(have z0 := gr_cell hSw y0 n0; go_simp; try (with_reducible rfl))
   refine rt (i := 4) hHeld ?_
   refine rt (i := 5) hHeld ?_
   refine rl (i := 6) (v := ?_) hHeld (fun w' hSw => ?_) ?_
   rotate_left
   ·(have z0 := gr_cell hSw yx nx; go_simp; try (with_reducible rfl))
   refine rt (i := 7) hHeld ?_
   refine rl (i := 8) (v := ?_) hHeld (fun w' hSw => ?_) ?_
   rotate_left
   ·(have z0 := gr_cell hSw y1 n1; go_simp; try (with_reducible rfl))
   refine rt (i := 9) hHeld ?_
   refine rt (i := 10) hHeld ?_
   refine rl (i := 11) (v := ?_) hHeld (fun w' hSw => ?_) ?_
   rotate_left
   ·(have z0 := gr_cell hSw yy ny; go_simp; try (with_reducible rfl))
   try simp only [Act.put, List.setIfInBounds_toArray, List.set_cons_zero, List.set_cons_succ]
   refine rc (i := 12) (fun K hK => ?_)
   go_simp
   go_at_call 80
   (refine (dPut (n := 2 * m) (c := 2 * m) (k := i) _ (FK.out.bel (Bel.refl wr).drew) (by omega) (upTo_len _ _ _) (by omega) WX.out.1 WY.out.1).mono ?_); rintro e wpa ⟨rfl, fpa, gpa⟩
   try go_wp2_with fail
   refine hK.out _ _ (hHeld.trans gpa) (fun hHeld => ?_)
   clear hK K
   try simp only [Act.put, List.setIfInBounds_toArray, List.set_cons_zero, List.set_cons_succ]
   refine wpAnyH_done (by kernel_rfl) ?_ _
   have e2 := upTo_two pf (n := 2 * m) (k := i) (by omega) (a := cn rx) (b := cn ry) (by rw [WX.out.2, HPF.out]; simp only; rw [if_pos (by omega)]; congr 1; omega) (by rw [WY.out.2, HPF.out]; simp only; rw [if_neg (by omega)]; congr 1; omega)
   rw [e2] at fpa
   have FK := Ho.mk fpa
   have HG := Ho.mk (HG.out.trans hHeld)
   clear fpa gpa hHeld e2
   go_wp2_with fail
   go_roundw
   case rel => exact ⟨i + 1, by omega, by simp, FK, HG⟩
   case measure => simp [intOf]; omega
  ·obtain rfl : i = m := by omega
   obtain ⟨rx, yx0, lx, cx⟩ := in_at (HX.out.bel GB.out) (i := 0) (by have := HXL.out; omega)
   obtain ⟨rm, yxm, lm, cm⟩ := in_at (HX.out.bel GB.out) (i := i) (by have := HXL.out; omega)
   replace yx0 := gr_cell HG.out yx0 (nxa 0)
   replace yxm := gr_cell HG.out yxm (nxa i)
   have yq := yx0
   rw [add_zero'] at yq
   have nx := nxa 0
   have nx2 := nX
   have nxm := nxa i
   have hi4 : (i : Int) < (i : Int) + 1 := by omega
   have W0 := Ho.mk (And.intro lx cx)
   have WM := Ho.mk (And.intro lm cm)
   clear lx cx lm cm nxa nya
   go_upto_region 10 with fail
   refine wp_region_held_drew (S := fun w' => Gr bo wr w') (by kernel_rfl) (Gr.refl bo wr).drew (fun hHeld => ?_)
   (try dsimp only at hHeld)
   refine rt (i := 0) hHeld ?_
   refine rt (i := 1) hHeld ?_
   refine rl (i := 2) (v := ?_) hHeld (fun w' hSw => ?_) ?_
   rotate_left
   ·(have z0 := gr_cell hSw y0 n0; go_simp; try (with_reducible rfl))
   refine rt (i := 3) hHeld ?_
   refine rl (i := 4) (v := ?_) hHeld (fun w' hSw => ?_) ?_
   rotate_left
   ·(have z0 := gr_cell hSw yx0 nx; have z1 := gr_cell hSw yq nx2; go_simp; try (with_reducible rfl))
   refine rt (i := 5) hHeld ?_
   refine rl (i := 6) (v := ?_) hHeld (fun w' hSw => ?_) ?_
   rotate_left
   ·(have z0 := gr_cell hSw y0 n0; go_simp; try (with_reducible rfl))
   refine rt (i := 7) hHeld ?_
   refine rt (i := 8) hHeld ?_
   refine rl (i := 9) (v := ?_) hHeld (fun w' hSw => ?_) ?_
   rotate_left
   ·(have z0 := gr_cell hSw yxm nxm; go_simp; try (with_reducible rfl))
   try simp only [Act.put, List.setIfInBounds_toArray, List.set_cons_zero, List.set_cons_succ]
   refine rc (i := 10) (fun K hK => ?_)
   go_simp
   go_at_call 80
   (refine (dPut (n := 2 * i) (c := 2 * i) (k := 0) _ (FK.out.bel (Bel.refl wr).drew) (by omega) (upTo_len _ _ _) (by omega) W0.out.1 WM.out.1).mono ?_); rintro e wpa ⟨rfl, fpa, gpa⟩
   try go_wp2_with fail
   refine hK.out _ _ (hHeld.trans gpa) (fun hHeld => ?_)
   clear hK K
   try simp only [Act.put, List.setIfInBounds_toArray, List.set_cons_zero, List.set_cons_succ]
   refine wpAnyH_done (by kernel_rfl) ?_ _
   have BF := HG.out.trans hHeld
   have lz : i ≠ 0 := by omega
   have e3 : ((upTo pf (2 * i) (2 * i)).set (2 * 0) (cn rx)).set (2 * 0 + 1) (cn rm) = packN X Y := by
    unfold packN
    rw [HXL.out, W0.out.2, WM.out.2, Nat.add_sub_cancel]
    apply List.ext_getElem (by simp [upTo])
    intro q h1 h2
    simp only [upTo, List.getElem_set, List.getElem_map, List.getElem_range, packRow]
    by_cases q1 : q = 1
    ·subst q1; simp
    ·by_cases q0 : q = 0
     ·subst q0; simp
     ·have hq : q < 2 * i := by simpa [upTo] using h1
      rw [if_neg (by omega), if_neg (by omega), if_pos hq, if_neg q0, if_neg q1, HPF.out]
   rw [e3] at fpa
   have FK := Ho.mk fpa
   have HB := Ho.mk (BF.bel (H.out.bel.trans GB.out) LBO.out)
   clear fpa gpa hHeld e3 BF
   go_wp2
   go_ret2
   have lp : (packN X Y).length = 2 * i := by unfold packN; rw [List.length_map, List.length_range, HXL.out]; omega
   exact ⟨some ⟨bo, 0, none⟩, 2 * i, by rw [lp]; rfl, RowF.of FK.out.fz LBO.out (by omega) (by omega), HB.out⟩
theorem dPack {A B : Option Addr} {c d n n' : Nat} {X Y : List Nat} (w : World) (T : Tab w) (hx : In w (.slice A n c) X) (hy : In w (.slice B n' d) Y) (hX : X.length = n) (hY : Y.length = n') (hl : n ≤ 128) (hl' : n' ≤ 128) :
  Calls Tryz.prog 42 #[.agg #[.slice A n c, .slice B n' d]] w (MakesRB w (pkR X Y) (okK X Y)) := by
 by_cases h1 : n = n'
 ·subst h1
  by_cases h2 : n = 0 ∨ logI (n - 1) < 0
  ·have e : okK X Y = false := by
    unfold okK
    apply decide_eq_false
    rintro ⟨_, q1, q2, _⟩
    rw [hX] at q1 q2
    rcases h2 with h2 | h2 <;> omega
   unfold pkR; rw [e]
   exact packBad2 w T hx hy hX hY hl h2
  ·obtain ⟨m, rfl⟩ : ∃ m, n = m + 1 := ⟨n - 1, by omega⟩
   have hlog : 0 ≤ logI m := by have : ¬ logI (m + 1 - 1) < 0 := fun q => h2 (.inr q); rw [Nat.add_sub_cancel] at this; omega
   have hm1 : 1 ≤ m := by
    rcases Nat.eq_zero_or_pos m with q | q
    ·subst q; exact absurd hlog (by decide)
    ·exact q
   by_cases h3 : nthN Y 0 = 0
   ·by_cases h4 : nthN Y m = 0
    ·have e : okK X Y = true := by
      unfold okK
      exact decide_eq_true ⟨by rw [hX, hY], by rw [hX]; omega, by rw [hX]; exact hlog, h3, by rw [hX]; exact h4⟩
     unfold pkR; rw [e]
     exact packOk w T hx hy hX hY hl hlog h3 h4 hm1
    ·have e : okK X Y = false := by
      unfold okK
      apply decide_eq_false
      rintro ⟨_, _, _, _, q⟩
      rw [hX] at q; exact h4 q
     unfold pkR; rw [e]
     exact packBad4 w T hx hy hX hY hl hlog h3 h4
   ·have e : okK X Y = false := by
     unfold okK
     apply decide_eq_false
     rintro ⟨_, _, _, q, _⟩
     exact h3 q
    unfold pkR; rw [e]
    exact packBad3 w T hx hy hX hY hl hlog h3
 ·have e : okK X Y = false := by
   unfold okK
   apply decide_eq_false
   rintro ⟨q, _⟩
   rw [hX, hY] at q; exact h1 q
  unfold pkR; rw [e]
  exact packBad1 w hl hl' h1
end Y8
namespace Lv
open Ieee Go Go.RowKit Go.Proofs Go.Proofs.YtnbdoidccacdnaaGreatDoor Ow Dt Gp I0 U0 W0 S4 S6 P0 M0 M1 M2 M3 P4 P5 P6 P8 W4 W5 Pc Pe Pg Pj Pk
theorem litRow {w : World} {b n : Nat} {cs : List Value} {X : List Nat} (K : Blk w b 50 cs) (hc : cs = X.map (.float .f64)) (hX : X.all (fun x => decide (x < 2 * sgnW) && (cn x == x)) = true) (hn : X.length = n) (hl : n ≤ 1000) : RowF w b (.slice (some ⟨b, 0, none⟩) n n) X := by
 subst hc; subst hn
 have hx : ∀ x ∈ X, x < 2 * sgnW ∧ cn x = x := fun x h => by
  have := List.all_eq_true.1 hX x h
  simpa using this
 exact RowF.of ⟨_, K, fun j hj => ⟨.float .f64 X[j], by simp [hj], X[j], rfl, (hx _ (List.getElem_mem hj)).1, by rw [nthN_lt hj]; exact (hx _ (List.getElem_mem hj)).2⟩⟩ (Nat.le_refl _) (Nat.le_refl _) (Nat.le_trans hl (by decide))
theorem In.len {w : World} {A : Option Addr} {n c : Nat} {X : List Nat} (h : In w (.slice A n c) X) : n = X.length := by
 obtain ⟨A1, c1, e, _⟩ := h.out
 cases e; rfl
theorem RowF.len {w : World} {B : Nat} {A : Option Addr} {n c : Nat} {X : List Nat} (h : RowF w B (.slice A n c) X) : n = X.length := by
 obtain ⟨A1, c1, e, _⟩ := h.out
 cases e; rfl
theorem inn {w : World} {B : Nat} {v : Value} {X : List Nat} (h : RowF w B v X) (hm : X.length ≤ 100000) : In w v X := RowF.inn h (by omega)
theorem in_nil (w : World) (A : Option Addr) : In w (.slice none 0 0) [] := ⟨none, 0, rfl, Nat.le_refl _, by decide, Fr.nil _ _, fun _ => rfl⟩
section
variable {A B : Option Addr} {n m c c' : Nat} {X Y : List Nat} {w : World}
theorem pSame {A2 B2 : Option Addr} {n2 m2 c2 d2 : Nat} {X2 Y2 : List Nat} {z : Bool} (hx : In w (.slice A n c) X) (hy : In w (.slice B m c') Y) (hx2 : In w (.slice A2 n2 c2) X2) (hy2 : In w (.slice B2 m2 d2) Y2)
  (l1 : X.length ≤ 100000) (l2 : Y.length ≤ 100000) (l3 : X2.length ≤ 100000) (l4 : Y2.length ≤ 100000) (hz : z = decide (X = X2 ∧ Y = Y2)) :
  Calls Tryz.prog 21 #[.agg #[.slice A n c, .slice B m c'], .agg #[.slice A2 n2 c2, .slice B2 m2 d2]] w (fun e w' => e = .returned (.bool z) ∧ Bel w w') := by
 obtain rfl := In.len hx; obtain rfl := In.len hy; obtain rfl := In.len hx2; obtain rfl := In.len hy2
 rw [hz]
 exact dSame w hx hy hx2 hy2 l1 l2 l3 l4
end
end Lv
namespace Le
open Ieee Go Go.RowKit Go.Proofs Go.Proofs.YtnbdoidccacdnaaGreatDoor Ow Dt Gp I0 U0 W0 S4 S6 P0 M0 M1 M3 W4 W5 V2 P4 Y3 Yh Y1 P8 Pc Y5 Y6 Y7 Y8 Pk Lv Pj
open Go.Proofs.YtnbdoidccacdnaaGreatDoor.V1 (NI St ni_same ni_loop St.refl St.of_bel blk_keep ni_blk put_st)
open Go.Proofs.YtnbdoidccacdnaaGreatDoor.C6 (leaveAny)
open Go.Proofs.YtnbdoidccacdnaaGreatDoor.Pg (In)
attribute [local go_sem ↓] Go.wp_at_zero Go.wp_at_succ
section
variable {A B : Option Addr} {n m c c' : Nat} {X Y : List Nat} {w : World}
theorem pRfft (T : Tab w) (hx : In w (.slice A n c) X) (hl : X.length ≤ 128) {Z : List Nat} {z : Int} (h1 : Z = rfR X) (h2 : z = errF X) :
  Calls Tryz.prog 38 #[.slice A n c] w (MakesRE w Z z) := by
 obtain rfl := In.len hx
 rw [h1, h2]; exact dRfft w T hx hl
theorem pBins (T : Tab w) (hx : In w (.slice A n c) X) (hl : X.length ≤ 128) {Z1 Z2 : List Nat} {z : Bool} (h1 : Z1 = binsRe X) (h2 : Z2 = binsIm X) (h3 : z = okR X.length) :
  Calls Tryz.prog 40 #[.slice A n c] w (MakesVB w Z1 Z2 z) := by
 obtain rfl := In.len hx
 rw [h1, h2, h3]; exact dBins w T hx hl
theorem pPack (T : Tab w) (hx : In w (.slice A n c) X) (hy : In w (.slice B m c') Y) (hl : X.length ≤ 128) (hl' : Y.length ≤ 128) {Z : List Nat} {z : Bool} (h1 : Z = pkR X Y) (h2 : z = okK X Y) :
  Calls Tryz.prog 42 #[.agg #[.slice A n c, .slice B m c']] w (MakesRB w Z z) := by
 obtain rfl := In.len hx; obtain rfl := In.len hy
 rw [h1, h2]; exact dPack w T hx hy rfl rfl hl hl'
theorem pSameRow (hx : In w (.slice A n c) X) (hy : In w (.slice B m c') Y) (l1 : X.length ≤ 100000) (l2 : Y.length ≤ 100000) {z : Bool} (hz : z = decide (X = Y)) :
  Calls Tryz.prog 44 #[.slice A n c, .slice B m c'] w (fun e w' => e = .returned (.bool z) ∧ Bel w w') := by
 rw [hz]; exact dSameRowI w hx hy l1 l2
end
theorem h1 : rfR [4607182418800017408, 4611686018427387904, 4613937818241073152, 4616189618054758400] = [4621819117588971520, 13835058055282163712, 13835058055282163712, 4611686018427387904] ∧ errF [4607182418800017408, 4611686018427387904, 4613937818241073152, 4616189618054758400] = 0 := by decide +kernel
theorem h2 : rfR [4607182418800017408, 4611686018427387904, 4613937818241073152] = [] ∧ errF [4607182418800017408, 4611686018427387904, 4613937818241073152] = 2 := by decide +kernel
theorem h3 : binsRe [4621819117588971520, 13835058055282163712, 13835058055282163712, 4611686018427387904] = [4621819117588971520, 13835058055282163712, 13835058055282163712] ∧ binsIm [4621819117588971520, 13835058055282163712, 13835058055282163712, 4611686018427387904] = [0, 4611686018427387904, 0] ∧ okR 4 = true := by decide +kernel
theorem h4 : binsRe [] = [] ∧ binsIm [] = [] ∧ okR 0 = false := by decide +kernel
theorem h5 : pkR [4621819117588971520, 13835058055282163712, 13835058055282163712] [0, 4611686018427387904, 0] = [4621819117588971520, 13835058055282163712, 13835058055282163712, 4611686018427387904] ∧ okK [4621819117588971520, 13835058055282163712, 13835058055282163712] [0, 4611686018427387904, 0] = true := by decide +kernel
theorem h6 : pkR [4607182418800017408, 4611686018427387904] [0, 4607182418800017408] = [] ∧ okK [4607182418800017408, 4611686018427387904] [0, 4607182418800017408] = false := by decide +kernel
theorem head14 (w : World) (T : Tab w) : Calls Tryz.prog 37 #[] w (fun e w' => e = .returned (.bool true) ∧ Bel w w') := by
 have TT := Ho.mk T
 clear T
 go_enter Tryz.func37, Tryz.ntmps37
 go_wp2_with fail
 have K1 := Ho.mk (Blk.new w [.float .f64 4607182418800017408, .float .f64 4611686018427387904, .float .f64 4613937818241073152, .float .f64 4616189618054758400] 50)
 have g1 := Ho.mk ((Bel.refl w).alloc (.cells #[.float .f64 4607182418800017408, .float .f64 4611686018427387904, .float .f64 4613937818241073152, .float .f64 4616189618054758400] 50))
 generalize w.alloc (.cells #[.float .f64 4607182418800017408, .float .f64 4611686018427387904, .float .f64 4613937818241073152, .float .f64 4616189618054758400] 50) = v2 at *
 have R3 := Ho.mk (litRow (X := [4607182418800017408, 4611686018427387904, 4613937818241073152, 4616189618054758400]) K1.out rfl (by decide) (n := 4) rfl (by decide))
 obtain ⟨Z1, hZ1⟩ : ∃ Z, Z = [4621819117588971520, 13835058055282163712, 13835058055282163712, 4611686018427387904] := ⟨_, rfl⟩
 have C4 := Ho.mk (pRfft (TT.out.bel g1.out) (inn R3.out (by decide)) (by decide) (Z := Z1) (z := 0) (hZ1.trans h1.1.symm) h1.2.symm)
 (with_reducible refine C4.out.mono ?_); rintro e v5 ⟨Q1, c1, rfl, t1, b6⟩
 have b6H := Ho.mk b6
 have T1 := Ho.mk t1
 clear C4 b6 t1
 have HZ1 := Ho.mk hZ1
 clear hZ1
 go_wp2_with fail
 have K2 := Ho.mk (Blk.new v5 [.float .f64 4607182418800017408, .float .f64 4611686018427387904, .float .f64 4613937818241073152] 50)
 have g7 := Ho.mk ((Bel.refl v5).alloc (.cells #[.float .f64 4607182418800017408, .float .f64 4611686018427387904, .float .f64 4613937818241073152] 50))
 generalize v5.alloc (.cells #[.float .f64 4607182418800017408, .float .f64 4611686018427387904, .float .f64 4613937818241073152] 50) = v8 at *
 have R9 := Ho.mk (litRow (X := [4607182418800017408, 4611686018427387904, 4613937818241073152]) K2.out rfl (by decide) (n := 3) rfl (by decide))
 obtain ⟨Z2, hZ2⟩ : ∃ Z : List Nat, Z = [] := ⟨_, rfl⟩
 have C10 := Ho.mk (pRfft (TT.out.bel ((g1.out.trans b6H.out).trans g7.out)) (inn R9.out (by decide)) (by decide) (Z := Z2) (z := 2) (hZ2.trans h2.1.symm) h2.2.symm)
 (with_reducible refine C10.out.mono ?_); rintro e v11 ⟨Q2, c2, rfl, t2, b12⟩
 have b12H := Ho.mk b12
 have T2 := Ho.mk t2
 clear C10 b12 t2
 clear hZ2
 go_wp2_with fail
 obtain ⟨X3, hX3⟩ : ∃ Z, Z = [4621819117588971520, 13835058055282163712, 13835058055282163712] := ⟨_, rfl⟩
 obtain ⟨Y3, hY3⟩ : ∃ Z, Z = [0, 4611686018427387904, 0] := ⟨_, rfl⟩
 have C13 := Ho.mk (pBins (TT.out.bel (((g1.out.trans b6H.out).trans g7.out).trans b12H.out)) (inn (T1.out.bel (g7.out.trans b12H.out)) (by rw [HZ1.out]; decide)) (by rw [HZ1.out]; decide) (Z1 := X3) (Z2 := Y3) (z := true) (by rw [hX3, HZ1.out]; exact h3.1.symm) (by rw [hY3, HZ1.out]; exact h3.2.1.symm) (by rw [HZ1.out]; exact h3.2.2.symm))
 (with_reducible refine C13.out.mono ?_); rintro e v14 ⟨Q3, c3, S3, d3, rfl, t3, b15⟩
 have b15H := Ho.mk b15
 have T3 := Ho.mk t3
 clear C13 b15 t3
 have HX3 := Ho.mk hX3
 clear hX3
 have HY3 := Ho.mk hY3
 clear hY3
 go_wp2_with fail
 have B3 := Ho.mk (Blk.new v14 [.slice Q3 X3.length c3, .slice S3 Y3.length d3] 24)
 have g16 := Ho.mk ((Bel.refl v14).alloc (.cells #[.slice Q3 X3.length c3, .slice S3 Y3.length d3] 24))
 generalize v14.alloc (.cells #[.slice Q3 X3.length c3, .slice S3 Y3.length d3] 24) = v17 at *
 obtain ⟨X4, hX4⟩ : ∃ Z : List Nat, Z = [] := ⟨_, rfl⟩
 obtain ⟨Y4, hY4⟩ : ∃ Z : List Nat, Z = [] := ⟨_, rfl⟩
 have C18 := Ho.mk (pBins (TT.out.bel (((((g1.out.trans b6H.out).trans g7.out).trans b12H.out).trans b15H.out).trans g16.out)) (in_nil _ none) (by decide) (Z1 := X4) (Z2 := Y4) (z := false) (by rw [hX4]; exact h4.1.symm) (by rw [hY4]; exact h4.2.1.symm) h4.2.2.symm)
 (with_reducible refine C18.out.mono ?_); rintro e v19 ⟨Q4, c4, S4, d4, rfl, t4, b20⟩
 have b20H := Ho.mk b20
 have T4 := Ho.mk t4
 clear C18 b20 t4
 clear hX4 hY4
 go_upto_region 5 with fail
 have B4 := Ho.mk (Blk.new v19 [.slice Q4 X4.length c4, .slice S4 Y4.length d4] 24)
 have g21 := Ho.mk ((Bel.refl v19).alloc (.cells #[.slice Q4 X4.length c4, .slice S4 Y4.length d4] 24))
 generalize v19.alloc (.cells #[.slice Q4 X4.length c4, .slice S4 Y4.length d4] 24) = v22 at *
 have y23 := ((B3.out.bel (b20H.out.trans g21.out))).cell (i := 0) rfl
 have y24 := ((B3.out.bel (b20H.out.trans g21.out))).cell (i := 1) rfl
 go_wp2_with fail
 obtain ⟨Z5, hZ5⟩ : ∃ Z, Z = [4621819117588971520, 13835058055282163712, 13835058055282163712, 4611686018427387904] := ⟨_, rfl⟩
 have C25 := Ho.mk (pPack (TT.out.bel (((((((g1.out.trans b6H.out).trans g7.out).trans b12H.out).trans b15H.out).trans g16.out).trans b20H.out).trans g21.out)) (inn (T3.out.bel ((g16.out.trans b20H.out).trans g21.out)).one (by rw [HX3.out]; decide)) (inn (T3.out.bel ((g16.out.trans b20H.out).trans g21.out)).two (by rw [HY3.out]; decide)) (by rw [HX3.out]; decide) (by rw [HY3.out]; decide) (Z := Z5) (z := true) (by rw [hZ5, HX3.out, HY3.out]; exact h5.1.symm) (by rw [HX3.out, HY3.out]; exact h5.2.symm))
 (with_reducible refine C25.out.mono ?_); rintro e v26 ⟨Q5, c5, rfl, t5, b27⟩
 have b27H := Ho.mk b27
 have T5 := Ho.mk t5
 clear C25 b27 t5
 have HZ5 := Ho.mk hZ5
 clear hZ5
 clear y23 y24
 go_wp2_with fail
 have K6 := Ho.mk ((Blk.new v26 [.float .f64 4607182418800017408, .float .f64 4611686018427387904] 50).old (.cells #[.float .f64 0, .float .f64 4607182418800017408] 50))
 have K7 := Ho.mk (Blk.new (v26.alloc (.cells #[.float .f64 4607182418800017408, .float .f64 4611686018427387904] 50)) [.float .f64 0, .float .f64 4607182418800017408] 50)
 simp only [World.size_alloc] at K7
 have g28 := Ho.mk (((Bel.refl v26).alloc (.cells #[.float .f64 4607182418800017408, .float .f64 4611686018427387904] 50)).alloc (.cells #[.float .f64 0, .float .f64 4607182418800017408] 50))
 generalize (v26.alloc (.cells #[.float .f64 4607182418800017408, .float .f64 4611686018427387904] 50)).alloc (.cells #[.float .f64 0, .float .f64 4607182418800017408] 50) = v29 at *
 have R30 := Ho.mk (litRow (X := [4607182418800017408, 4611686018427387904]) K6.out rfl (by decide) (n := 2) rfl (by decide))
 have R31 := Ho.mk (litRow (X := [0, 4607182418800017408]) K7.out rfl (by decide) (n := 2) rfl (by decide))
 obtain ⟨Z6, hZ6⟩ : ∃ Z : List Nat, Z = [] := ⟨_, rfl⟩
 have C32 := Ho.mk (pPack (TT.out.bel (((((((((g1.out.trans b6H.out).trans g7.out).trans b12H.out).trans b15H.out).trans g16.out).trans b20H.out).trans g21.out).trans b27H.out).trans g28.out)) (inn R30.out (by decide)) (inn R31.out (by decide)) (by decide) (by decide) (Z := Z6) (z := false) (hZ6.trans h6.1.symm) h6.2.symm)
 (with_reducible refine C32.out.mono ?_); rintro e v33 ⟨Q6, c6, rfl, t6, b34⟩
 have b34H := Ho.mk b34
 have T6 := Ho.mk t6
 clear C32 b34 t6
 clear hZ6
 go_wp2_with fail
 have K8 := Ho.mk (Blk.new v33 [.float .f64 4621819117588971520, .float .f64 13835058055282163712, .float .f64 13835058055282163712, .float .f64 4611686018427387904] 50)
 have g35 := Ho.mk ((Bel.refl v33).alloc (.cells #[.float .f64 4621819117588971520, .float .f64 13835058055282163712, .float .f64 13835058055282163712, .float .f64 4611686018427387904] 50))
 generalize v33.alloc (.cells #[.float .f64 4621819117588971520, .float .f64 13835058055282163712, .float .f64 13835058055282163712, .float .f64 4611686018427387904] 50) = v36 at *
 have R37 := Ho.mk (litRow (X := [4621819117588971520, 13835058055282163712, 13835058055282163712, 4611686018427387904]) K8.out rfl (by decide) (n := 4) rfl (by decide))
 have C38 := Ho.mk (pSameRow (z := true) (inn (T1.out.bel (((((((((g7.out.trans b12H.out).trans b15H.out).trans g16.out).trans b20H.out).trans g21.out).trans b27H.out).trans g28.out).trans b34H.out).trans g35.out)) (by rw [HZ1.out]; decide)) (inn R37.out (by decide)) (by rw [HZ1.out]; decide) (by decide) (by rw [HZ1.out]; decide))
 (with_reducible refine C38.out.mono ?_); rintro e v39 ⟨rfl, b40⟩
 have b40H := Ho.mk b40
 clear C38 b40
 have y41 := ((B3.out.bel ((((((b20H.out.trans g21.out).trans b27H.out).trans g28.out).trans b34H.out).trans g35.out).trans b40H.out))).cell (i := 0) rfl
 have y42 := ((B3.out.bel ((((((b20H.out.trans g21.out).trans b27H.out).trans g28.out).trans b34H.out).trans g35.out).trans b40H.out))).cell (i := 1) rfl
 go_wp2_with fail
 have K9 := Ho.mk ((Blk.new v39 [.float .f64 4621819117588971520, .float .f64 13835058055282163712, .float .f64 13835058055282163712] 50).old (.cells #[.float .f64 0, .float .f64 4611686018427387904, .float .f64 0] 50))
 have Ka := Ho.mk (Blk.new (v39.alloc (.cells #[.float .f64 4621819117588971520, .float .f64 13835058055282163712, .float .f64 13835058055282163712] 50)) [.float .f64 0, .float .f64 4611686018427387904, .float .f64 0] 50)
 simp only [World.size_alloc] at Ka
 have g43 := Ho.mk (((Bel.refl v39).alloc (.cells #[.float .f64 4621819117588971520, .float .f64 13835058055282163712, .float .f64 13835058055282163712] 50)).alloc (.cells #[.float .f64 0, .float .f64 4611686018427387904, .float .f64 0] 50))
 generalize (v39.alloc (.cells #[.float .f64 4621819117588971520, .float .f64 13835058055282163712, .float .f64 13835058055282163712] 50)).alloc (.cells #[.float .f64 0, .float .f64 4611686018427387904, .float .f64 0] 50) = v44 at *
 have R45 := Ho.mk (litRow (X := [4621819117588971520, 13835058055282163712, 13835058055282163712]) K9.out rfl (by decide) (n := 3) rfl (by decide))
 have R46 := Ho.mk (litRow (X := [0, 4611686018427387904, 0]) Ka.out rfl (by decide) (n := 3) rfl (by decide))
 have C47 := Ho.mk (pSame (z := true) (inn ((T3.out.bel ((((((((g16.out.trans b20H.out).trans g21.out).trans b27H.out).trans g28.out).trans b34H.out).trans g35.out).trans b40H.out).trans g43.out))).one (by rw [HX3.out]; decide)) (inn ((T3.out.bel ((((((((g16.out.trans b20H.out).trans g21.out).trans b27H.out).trans g28.out).trans b34H.out).trans g35.out).trans b40H.out).trans g43.out))).two (by rw [HY3.out]; decide)) (inn R45.out (by decide)) (inn R46.out (by decide)) (by rw [HX3.out]; decide) (by rw [HY3.out]; decide) (by decide) (by decide) (by rw [HX3.out, HY3.out]; decide))
 (with_reducible refine C47.out.mono ?_); rintro e v48 ⟨rfl, b49⟩
 have b49H := Ho.mk b49
 clear C47 b49
 clear y41 y42
 go_wp2_with fail
 have C50 := Ho.mk (pSameRow (z := true) (inn (T5.out.bel (((((g28.out.trans b34H.out).trans g35.out).trans b40H.out).trans g43.out).trans b49H.out)) (by rw [HZ5.out]; decide)) (inn (T1.out.bel ((((((((((((g7.out.trans b12H.out).trans b15H.out).trans g16.out).trans b20H.out).trans g21.out).trans b27H.out).trans g28.out).trans b34H.out).trans g35.out).trans b40H.out).trans g43.out).trans b49H.out)) (by rw [HZ1.out]; decide)) (by rw [HZ5.out]; decide) (by rw [HZ1.out]; decide) (by rw [HZ1.out, HZ5.out]; decide))
 (with_reducible refine C50.out.mono ?_); rintro e v51 ⟨rfl, b52⟩
 have b52H := Ho.mk b52
 clear C50 b52
 go_wp2
 go_ret
 exact ⟨rfl, (((((((((((((((g1.out.trans b6H.out).trans g7.out).trans b12H.out).trans b15H.out).trans g16.out).trans b20H.out).trans g21.out).trans b27H.out).trans g28.out).trans b34H.out).trans g35.out).trans b40H.out).trans g43.out).trans b49H.out).trans b52H.out)⟩
end Le
namespace Lf
open Ieee Go Go.RowKit Go.Proofs Go.Proofs.YtnbdoidccacdnaaGreatDoor Ow P4 Y6 Pm
attribute [local go_sem ↓] Go.wp_at_zero Go.wp_at_succ
theorem dFits {k : Int} {n : Nat} (w : World) (hk : k = 1 ∨ k = 2 ∨ k = 4 ∨ k = 5 ∨ k = 6 ∨ k = 8 ∨ k = 9 ∨ k = 10) (hn : n ≤ 128) :
  Calls Tryz.prog 45 #[.int .i64 k, .int .i64 (n : Int)] w fun e w' => e = .returned (.bool (okR n)) ∧ Bel w w' := by
 by_cases h0 : n = 0
 ·subst h0
  rw [show okR 0 = false by decide]
  rcases hk with rfl | rfl | rfl | rfl | rfl | rfl | rfl | rfl
  all_goals
   go_enter Tryz.func45, Tryz.ntmps45
   go_wp2
   go_ret
   exact ⟨rfl, Bel.refl _⟩
 ·have h1 : ¬ (n : Int) < 1 := by omega
  have h2 : ¬ n < 1 := by omega
  obtain ⟨z, hz⟩ : ∃ z, z = logI n := ⟨_, rfl⟩
  have e : okR n = decide (1 ≤ z) := by rw [hz]; rfl
  rw [e]
  have C := dPow (n := n) w (by omega)
  rw [← hz] at C
  have C := Ho.mk C
  clear hz e h0
  rcases hk with rfl | rfl | rfl | rfl | rfl | rfl | rfl | rfl
  all_goals
   go_enter Tryz.func45, Tryz.ntmps45
   go_wp2_with fail
   (with_reducible refine C.out.mono ?_); rintro e w1 ⟨rfl, b1⟩
   go_wp2
   go_ret
   exact ⟨rfl, b1⟩
end Lf
namespace Pf
open Go Go.ChangeShapes Go.WideShapes Go.ChangeAt Go.RowKit Go.Proofs.YtnbdoidccacdnaaGreatDoor Ow Dt Gp W0 W4 W5 Pg Pd
section
variable {H : Type} {enc : TypeId × Value → H} {P : Program} {w : World} {base : Nat} {spare : Nat → Bool} {held : Bool} {fuel m : Nat} {t : TypeId} {cs : List Value} {x : DataW H × List MemPlace}
theorem trod_float {k : FloatKind} (ht : P.underlying t = some (.float k)) (h : DataW.trod enc P w base spare held fuel t cs = some x) : ∃ n, cs = [.float k n] ∧ x = (.lit (.float k n), []) ∧ (Lit.float k n).wf = true := by
 cases fuel with
 | zero => simp [DataW.trod] at h
 | succ n =>
  unfold DataW.trod at h
  rw [ht] at h
  split at h <;> simp_all
end
theorem wf_lt {b : Nat} (h : (Lit.float .f64 b).wf = true) : b < 2 * sgnW := by
 have : b < 2 ^ 64 := by simpa [Lit.wf] using h
 exact this
theorem cF : Tryz.prog.cellsOf 50 = 1 := by kernel_rfl
theorem bytesF : Tryz.prog.bytesOf 50 = 8 := by kernel_rfl
def clsOf (V : Nat → Value) (n : Nat) : List Nat := (List.range n).map fun i => match V i with
 | .float _ b => cn b
 | _ => 0
theorem open_row {H : Type} {enc : TypeId × Value → H} {W : World} {fuel : Nat} {cs : List Value} {x : DataW H × List MemPlace} (h : DataW.trod enc Tryz.prog W 0 (fun _ => true) true fuel 22 cs = some x)
  (hsz : ∀ n ∈ x.1.weights Tryz.prog 22, n ≤ reachBytes) : ∃ A c X, cs = [.slice A X.length c] ∧ In W (.slice A X.length c) X ∧ X.length ≤ 17592186043904 := by
 rcases Deep.open_slice1 Tryz.underlying22 cF h with ⟨h1, _⟩ | ⟨a, len, cap, m, n, V, D, Pl, rfl, _, hle, hmax, hm, hx, hV⟩
 ·exact ⟨none, 0, [], h1, ⟨none, 0, rfl, Nat.le_refl _, by decide, Fr.nil _ _, fun _ => rfl⟩, by simp⟩
 ·rw [if_pos rfl] at hm
  have hq : cap * 8 ≤ reachBytes := by
   refine hsz (cap * 8) ?_
   rw [congrArg Prod.fst hx]
   simp only [DataW.weights, Tryz.underlying22, bytesF, List.length_map, List.length_range, List.mem_cons]
   left; rw [hm, Nat.add_sub_cancel' hle]
  have hr : cap ≤ 17592186043904 := by
   have e8 : cap * 8 ≤ 17592186043904 * 8 := Nat.le_trans hq (by decide)
   exact Nat.le_of_mul_le_mul_right e8 (by decide)
  have hlen : (clsOf V len).length = len := by simp [clsOf]
  refine ⟨some a, cap, clsOf V len, by rw [hlen], ⟨some a, cap, by rw [hlen], by rw [hlen]; exact hle, hmax, ⟨by rw [hlen]; omega, fun j hj => ?_⟩, fun e => by cases e⟩, by rw [hlen]; omega⟩
  rw [hlen] at hj
  obtain ⟨k1, k2⟩ := hV j (by omega)
  obtain ⟨b, e, _, hw⟩ := trod_float Tryz.underlying50 k2
  simp only [List.cons.injEq, and_true] at e
  refine ⟨a, V j, rfl, k1, b, e, wf_lt hw, ?_⟩
  rw [nthN_lt (by rw [hlen]; exact hj)]
  simp [clsOf, e]
theorem open_floats {H : Type} {enc : TypeId × Value → H} {W : World} {base : Nat} {v : Value} {d : DataW H} {p : List MemPlace} (hval : Value.okWide Tryz.prog W .any base 22 v) (hd : DataW.Trod enc Tryz.prog W 0 (fun _ => true) true 22 v d p)
  (hsz : ∀ n ∈ d.weights Tryz.prog 22, n ≤ reachBytes) : ∃ A c X, v = .slice A X.length c ∧ In W (.slice A X.length c) X := by
 obtain ⟨a, len, cap, rfl⟩ := WideShapes.okWide_slice Tryz.underlying22 hval
 obtain ⟨fuel, hf⟩ := hd
 obtain ⟨A, c, X, e, h, _⟩ := open_row hf hsz
 simp only [Value.cells, List.cons.injEq, and_true] at e
 exact ⟨A, c, X, e, h⟩
end Pf
namespace Lg
open Ieee Go Go.RowKit Go.Proofs Go.Proofs.YtnbdoidccacdnaaGreatDoor Ow Dt Gp I0 U0 W0 S4 S6 P0 M0 M1 M3 W4 W5 V2 P4 Y3 Yh Y1 P8 Pc Y5 Y6 Y7 Y8 Pk Lv Pj Le Lf
open Go.Proofs.YtnbdoidccacdnaaGreatDoor.V1 (NI St ni_same ni_loop St.refl St.of_bel blk_keep ni_blk put_st)
open Go.Proofs.YtnbdoidccacdnaaGreatDoor.C6 (leaveAny)
open Go.Proofs.YtnbdoidccacdnaaGreatDoor.Pg (In)
attribute [local go_sem ↓] Go.wp_at_zero Go.wp_at_succ
theorem wpList_own {w : World} {ops : Array Oper} {rest : List Oper} {o : Oper} {a : Act} {Q : Exit → Act → World → Prop} (hgd : o.guard = none) (s x : Operand) (ho : o.op = .call { callee := .builtin .append, args := #[s, x], argTypes := #[22, 22] })
  {g c n : Nat} {A : Option Addr} {X : List Nat} (hs : a.eval s = .slice (some ⟨g, 0, none⟩) 0 0) (K0 : Blk w g 50 []) (hx : a.eval x = .slice A n c) (hin : In w (.slice A n c) X) (hl : X.length ≤ 100000) (hn : X.length = n)
  (h : ∀ A' c' w', RowF w' g (.slice A' n c') X → Gr g w w' → wpList Tryz.prog ops Q rest (a.put o.dst (.slice A' n c')) w') : wpList Tryz.prog ops Q (o :: rest) a w := by
 subst hn
 exact wpList_plain hgd fun K hK' => wp_app_in s x ho hs K0 hx hin hl (fun A' c' w' h1 h2 _ => hK' _ _ (h A' c' w' h1 h2))
theorem grow_own {W0 w w' : World} {g : Nat} {A : Option Addr} {n c : Nat} {X : List Nat} (hw : Bel W0 w) (hg : W0.heap.size ≤ g) (G : Gr g w w') (r : RowF w' g (.slice A n c) X) (h0 : 0 < X.length) : ∃ b, A = some ⟨b, 0, none⟩ ∧ n = X.length ∧ X.length ≤ c ∧ c ≤ 9223372036854775807 ∧ Hp W0 w' [.row b X] := by
 obtain ⟨b, c', e, h1, h2, f, l⟩ := r.at_ h0
 simp only [Value.slice.injEq] at e
 obtain ⟨e1, e2, rfl⟩ := e
 exact ⟨b, e1, e2, h1, h2, ⟨G.bel hw hg, fun x hx => by simp at hx; subst hx; exact Nat.le_trans hg l, by simp, fun x hx => by simp at hx; subst hx; exact f⟩⟩
theorem given14L {A : Option Addr} {c n : Nat} {X : List Nat} (w : World) (T : Tab w) (hx : In w (.slice A n c) X) (hX : X.length = n) (hl : 64 < n) : Calls Tryz.prog 12 #[.slice A n c] w (fun e w' => e = .returned (.bool true) ∧ Bel w w') := by
 have TT := Ho.mk T
 have hl2 : (64 : Int) < (n : Int) := by omega
 clear T hx hX
 go_enter Tryz.func12, Tryz.ntmps12
 go_wp2_with fail
 have C1 := Ho.mk (head14 w (TT.out.bel (Bel.refl _)))
 (with_reducible refine C1.out.mono ?_); rintro e v2 ⟨rfl, b3⟩
 have b3H := Ho.mk b3
 clear C1 b3
 go_wp2
 go_ret
 exact ⟨rfl, b3H.out⟩
theorem given14N {A : Option Addr} {c n : Nat} {X : List Nat} (w : World) (T : Tab w) (hx : In w (.slice A n c) X) (hX : X.length = n) (hl : n ≤ 64) (hok : okR n = false) : Calls Tryz.prog 12 #[.slice A n c] w (fun e w' => e = .returned (.bool true) ∧ Bel w w') := by
 have TT := Ho.mk T
 have HX := Ho.mk hx
 have HXL := Ho.mk hX
 have FT := Ho.mk (fun (w : World) => dFits (k := 1) (n := n) w (.inl rfl) (by omega))
 rw [hok] at FT
 have ER := Ho.mk (show [] = rfR X ∧ 2 = errF X by unfold rfR errF; rw [hX, hok]; exact ⟨rfl, rfl⟩)
 have EB := Ho.mk (show [] = binsRe X ∧ [] = binsIm X ∧ false = okR X.length by unfold binsRe binsIm; rw [hX, hok]; exact ⟨rfl, rfl, rfl⟩)
 have hl2 : ¬ (64 : Int) < (n : Int) := by omega
 clear T hx hX hok
 go_enter Tryz.func12, Tryz.ntmps12
 go_wp2_with fail
 have C1 := Ho.mk (head14 w (TT.out.bel (Bel.refl _)))
 (with_reducible refine C1.out.mono ?_); rintro e v2 ⟨rfl, b3⟩
 have b3H := Ho.mk b3
 clear C1 b3
 have hsz : v2.heap.size = v2.heap.size := rfl
 have K0 := Blk.new v2 [] 50
 have B0 := (Bel.refl v2).alloc (.cells #[] 50)
 have I0 := (HX.out.bel b3H.out).bel B0
 go_upto_region 5 with (at_builtin; refine wpList_own rfl _ _ rfl rfl K0 rfl I0 (by have := HXL.out; omega) HXL.out ?_; intro A4 c4 w3 r4 G4; have R4 := Ho.mk r4; have GG := Ho.mk G4; clear r4 G4 K0 I0)
 have sB := b3H.out.size
 have BB := Ho.mk (GG.out.bel (b3H.out.trans B0) sB)
 clear B0 sB hsz
 go_wp2_with fail
 have C4 := Ho.mk (pRfft (TT.out.bel BB.out) (HX.out.bel BB.out) (by have := HXL.out; omega) ER.out.1 ER.out.2)
 (with_reducible refine C4.out.mono ?_); rintro e v5 ⟨Q5, c5, rfl, t5, b6⟩
 have b6H := Ho.mk b6
 have T5 := Ho.mk t5
 clear C4 b6 t5
 go_wp2_with fail
 have C7 := Ho.mk (pBins (TT.out.bel (BB.out.trans b6H.out)) (HX.out.bel (BB.out.trans b6H.out)) (by have := HXL.out; omega) EB.out.1 EB.out.2.1 EB.out.2.2)
 (with_reducible refine C7.out.mono ?_); rintro e v8 ⟨Q6, c6, S6, d6, rfl, t6, b9⟩
 have b9H := Ho.mk b9
 have T6 := Ho.mk t6
 clear C7 b9 t6
 simp only [List.length_nil] at *
 go_upto_region 7 with fail
 have B7 := Ho.mk (Blk.new v8 [.slice Q6 0 c6, .slice S6 0 d6] 24)
 have g10 := Ho.mk ((Bel.refl v8).alloc (.cells #[.slice Q6 0 c6, .slice S6 0 d6] 24))
 generalize v8.alloc (.cells #[.slice Q6 0 c6, .slice S6 0 d6] 24) = v11 at *
 go_wp2_with fail
 have C12 := Ho.mk (FT.out v11)
 (with_reducible refine C12.out.mono ?_); rintro e v13 ⟨rfl, b14⟩
 have b14H := Ho.mk b14
 clear C12 b14
 have y15 := ((B7.out.bel b14H.out)).cell (i := 0) rfl
 have y16 := ((B7.out.bel b14H.out)).cell (i := 1) rfl
 go_wp2_with fail
 have HWf : Ho (∃ q, q = v13) := ⟨⟨_, rfl⟩⟩
 go_loopw [10] (fun v wr => v = .int .i64 0 ∧ wr = v13) (fun _ _ => 0)
 case atStart => exact ⟨rfl, rfl⟩
 case round =>
  obtain ⟨rfl, rfl⟩ := hrel
  obtain ⟨wo10, rfl⟩ : ∃ wo : World, wo = wr := ⟨_, rfl⟩
  go_wp2_with fail
  go_loopw [11] (fun v wr => v = .int .i64 0 ∧ wr = wo10) (fun _ _ => 0)
  case atStart => exact ⟨rfl, rfl⟩
  case round =>
   obtain ⟨rfl, rfl⟩ := hrel
   obtain ⟨wo11, rfl⟩ : ∃ wo : World, wo = wr := ⟨_, rfl⟩
   go_wp2_with fail
   have C17 := Ho.mk (pSameRow (z := true) (HX.out.bel ((((BB.out.trans b6H.out).trans b9H.out).trans g10.out).trans b14H.out)) (inn (R4.out.bel (((b6H.out.trans b9H.out).trans g10.out).trans b14H.out)) (by have := HXL.out; omega)) (by have := HXL.out; omega) (by have := HXL.out; omega) (by simp))
   (with_reducible refine C17.out.mono ?_); rintro e v18 ⟨rfl, b19⟩
   have b19H := Ho.mk b19
   clear C17 b19
   clear y15 y16
   go_wp2
   go_ret
   exact ⟨rfl, (((((BB.out.trans b6H.out).trans b9H.out).trans g10.out).trans b14H.out).trans b19H.out)⟩
theorem fz_inn {w : World} {b n c : Nat} {X : List Nat} (h : Fz w b X) (hn : X.length = n) (hl : n ≤ 100000) (h1 : n ≤ c) (h2 : c ≤ 9223372036854775807) : In w (.slice (some ⟨b, 0, none⟩) n c) X := by
 subst hn
 exact ⟨_, c, rfl, h1, h2, h.fr (by omega), fun e => by cases e⟩
theorem bins_len {X : List Nat} (hok : okR X.length = true) : (binsRe X).length = X.length / 2 + 1 ∧ (binsIm X).length = X.length / 2 + 1 ∧ 2 ≤ X.length := by
 obtain ⟨h1, h2, _⟩ := okR_pow hok
 have := two_half h2
 rw [← h1] at this
 have := Nat.two_pow_pos (Nat.log2 X.length - 1)
 unfold binsRe binsIm
 rw [if_pos hok, if_pos hok]
 refine ⟨?_, ?_, by omega⟩
 ·rw [List.length_append, M2.evenG_len]; simp only [List.length_cons, List.length_nil]; omega
 ·rw [List.length_append, List.length_set, M2.oddG_len]; rfl
theorem rfR_len {X : List Nat} (hok : okR X.length = true) : (rfR X).length = X.length := by
 obtain ⟨h1, h2, _⟩ := okR_pow hok
 unfold rfR; rw [if_pos hok, rfftN_len]; exact h1.symm
theorem given14Y {A : Option Addr} {c n : Nat} {X : List Nat} (w : World) (T : Tab w) (hx : In w (.slice A n c) X) (hX : X.length = n) (hl : n ≤ 64) (hok : okR n = true) : Calls Tryz.prog 12 #[.slice A n c] w (fun e w' => e = .returned (.bool true) ∧ Bel w w') := by
 have TT := Ho.mk T
 have HX := Ho.mk hx
 have HXL := Ho.mk hX
 have FT := Ho.mk (fun (w : World) => dFits (k := 1) (n := n) w (.inl rfl) (by omega))
 rw [hok] at FT
 rw [← hX] at hok
 obtain ⟨k1, k2, k3⟩ := bins_len hok
 obtain ⟨k, hk⟩ : ∃ k, k = X.length / 2 + 1 := ⟨_, rfl⟩
 have hk0 : 0 < k := by omega
 have hk64 : k ≤ 64 := by omega
 obtain ⟨Z5, hZ5⟩ : ∃ Z, Z = rfR X := ⟨_, rfl⟩
 obtain ⟨X6, hX6⟩ : ∃ Z, Z = binsRe X := ⟨_, rfl⟩
 obtain ⟨Y6, hY6⟩ : ∃ Z, Z = binsIm X := ⟨_, rfl⟩
 have LZ := Ho.mk (show Z5.length = n by rw [hZ5, rfR_len hok, hX])
 have LX6 := Ho.mk (show X6.length = k by rw [hX6, k1, hk])
 have LY6 := Ho.mk (show Y6.length = k by rw [hY6, k2, hk])
 have ER := Ho.mk (show Z5 = rfR X ∧ 0 = errF X by unfold errF; rw [hok]; exact ⟨hZ5, rfl⟩)
 have EB := Ho.mk (show X6 = binsRe X ∧ Y6 = binsIm X ∧ true = okR X.length from ⟨hX6, hY6, hok.symm⟩)
 have hn2 : 2 ≤ n := by omega
 have hl2 : ¬ (64 : Int) < (n : Int) := by omega
 clear T hx hX hok k1 k2 k3 hk hZ5 hX6 hY6
 go_enter Tryz.func12, Tryz.ntmps12
 go_wp2_with fail
 have C1 := Ho.mk (head14 w (TT.out.bel (Bel.refl _)))
 (with_reducible refine C1.out.mono ?_); rintro e v2 ⟨rfl, b3⟩
 have b3H := Ho.mk b3
 clear C1 b3
 have hsz : v2.heap.size = v2.heap.size := rfl
 have K0 := Blk.new v2 [] 50
 have B0 := (Bel.refl v2).alloc (.cells #[] 50)
 have I0 := (HX.out.bel b3H.out).bel B0
 go_upto_region 5 with (at_builtin; refine wpList_own rfl _ _ rfl rfl K0 rfl I0 (by have := HXL.out; omega) HXL.out ?_; intro A4 c4 w3 r4 G4; have R4 := Ho.mk r4; have GG := Ho.mk G4; clear r4 G4 K0 I0)
 have sB := b3H.out.size
 have BB := Ho.mk (GG.out.bel (b3H.out.trans B0) sB)
 obtain ⟨bw, rfl, hq, hcw, hcw2, H⟩ := grow_own (b3H.out.trans B0) sB GG.out R4.out (by have := HXL.out; omega)
 replace H := Ho.mk H
 have CW := Ho.mk (And.intro hcw hcw2)
 clear hcw hcw2 GG R4 BB B0 sB hsz hq
 go_wp2_with fail
 have C5 := Ho.mk (pRfft (TT.out.bel H.out.bel) (HX.out.bel H.out.bel) (by have := HXL.out; omega) ER.out.1 ER.out.2)
 (with_reducible refine C5.out.mono ?_); rintro e w4 ⟨A5, c5, rfl, r5, b5⟩
 obtain ⟨ba, ca, e, _, _, H⟩ := H.out.rowF b5 r5 (by rw [LZ.out]; omega)
 rw [LZ.out] at e ⊢
 cases e
 replace H := Ho.mk H
 clear C5 r5 b5
 go_wp2_with fail
 have C6 := Ho.mk (pBins (TT.out.bel H.out.bel) (HX.out.bel H.out.bel) (by have := HXL.out; omega) EB.out.1 EB.out.2.1 EB.out.2.2)
 (with_reducible refine C6.out.mono ?_); rintro e w5 ⟨Q6, cr, S6, ci, rfl, t6, b6⟩
 obtain ⟨br, bi, cr2, ci2, e1, e2, _, H⟩ := H.out.twoF b6 t6 (by rw [LX6.out]; exact hk0) (by rw [LY6.out]; exact hk0)
 rw [LX6.out] at e1 ⊢
 rw [LY6.out] at e2 ⊢
 cases e1; cases e2
 replace H := Ho.mk H
 clear C6 t6 b6
 go_upto_region 7 with fail
 replace H := Ho.mk (H.out.box [.slice (some ⟨br, 0, none⟩) k cr, .slice (some ⟨bi, 0, none⟩) k ci] 24)
 generalize w5.alloc (.cells #[.slice (some ⟨br, 0, none⟩) k cr, .slice (some ⟨bi, 0, none⟩) k ci] 24) = w6 at *
 generalize w5.heap.size = b7 at *
 go_wp2_with fail
 have C7 := Ho.mk (FT.out w6)
 (with_reducible refine C7.out.mono ?_); rintro e w7 ⟨rfl, b7'⟩
 replace H := Ho.mk (H.out.grow b7')
 clear C7 b7'
 go_wp2_with fail
 go_loopw [10] (fun v wr => ∃ (i : Nat) (Z : List Nat), i ≤ n ∧ v = .int .i64 i ∧ Ho (Z.length = n) ∧ Ho (Hp w wr [.blk b7 24 [.slice (some ⟨br, 0, none⟩) k cr, .slice (some ⟨bi, 0, none⟩) k ci], .row br X6, .row bi Y6, .row ba Z, .row bw X])) (fun v _ => n - (intOf v).toNat)
 case atStart => exact ⟨0, Z5, Nat.zero_le _, rfl, LZ, H⟩
 case round =>
  clear H LZ ER
  obtain ⟨i, Z, hi, rfl, LZ, H⟩ := hrel
  rcases Nat.lt_or_ge i n with hlt | hge
  ·obtain ⟨_, y0, _, _⟩ := (H.out.row 3 rfl).at_ (i := i) (by rw [LZ.out]; exact hlt)
   have x0 := (H.out.row 3 rfl).free i
   go_wp2_with fail
   have HF := Ho.mk (H.out.setF 3 rfl i (r := 4635118810238550016) (by decide) rfl)
   simp only [List.set_cons_zero, List.set_cons_succ] at HF
   clear y0 x0 H
   go_roundw
   case rel => exact ⟨i + 1, _, by omega, by simp, ⟨by rw [List.length_set]; exact LZ.out⟩, HF⟩
   case measure => simp [intOf]; omega
  ·obtain rfl : i = n := by omega
   obtain ⟨wo, rfl⟩ : ∃ wo : World, wo = wr := ⟨_, rfl⟩
   have y0 := (H.out.blk 0 rfl).cell (i := 0) rfl
   go_wp2_with fail
   clear y0
   go_loopw [11] (fun v wr => ∃ (j : Nat) (Xr : List Nat), j ≤ k ∧ v = .int .i64 j ∧ Ho (Xr.length = k) ∧ Ho (Hp w wr [.blk b7 24 [.slice (some ⟨br, 0, none⟩) k cr, .slice (some ⟨bi, 0, none⟩) k ci], .row br Xr, .row bi Y6, .row ba Z, .row bw X])) (fun v _ => k - (intOf v).toNat)
   case atStart => exact ⟨0, X6, Nat.zero_le _, rfl, LX6, H⟩
   case round =>
    clear H LX6 EB
    obtain ⟨j, Xr, hj, rfl, LX6, H⟩ := hrel
    have y1 := (H.out.blk 0 rfl).cell (i := 0) rfl
    rcases Nat.lt_or_ge j k with hlt | hge
    ·obtain ⟨_, y0, _, _⟩ := (H.out.row 1 rfl).at_ (i := j) (by rw [LX6.out]; exact hlt)
     have x0 := (H.out.row 1 rfl).free j
     go_wp2_with fail
     have HF := Ho.mk (H.out.setF 1 rfl j (r := 4635118810238550016) (by decide) rfl)
     simp only [List.set_cons_zero, List.set_cons_succ] at HF
     clear y0 x0 y1 H
     go_roundw
     case rel => exact ⟨j + 1, _, by omega, by simp, ⟨by rw [List.length_set]; exact LX6.out⟩, HF⟩
     case measure => simp [intOf]; omega
    ·obtain rfl : j = k := by omega
     go_wp2_with fail
     have C8 := Ho.mk (pSameRow (z := true) (HX.out.bel H.out.bel) (fz_inn (H.out.row 4 rfl) HXL.out (by omega) (by have := CW.out.1; have := HXL.out; omega) CW.out.2) (by have := HXL.out; omega) (by have := HXL.out; omega) (by simp))
     (with_reducible refine C8.out.mono ?_); rintro e w8 ⟨rfl, b8⟩
     go_wp2
     go_ret
     exact ⟨rfl, H.out.bel.trans b8⟩
theorem given14_door (A : Option Addr) (c : Nat) (X : List Nat) (w : World) (T : Tab w) (hx : In w (.slice A X.length c) X) : Calls Tryz.prog 12 #[.slice A X.length c] w (fun e w' => e = .returned (.bool true) ∧ Bel w w') := by
 by_cases hl : X.length ≤ 64
 ·cases hok : okR X.length with
  | true => exact given14Y w T hx rfl hl hok
  | false => exact given14N w T hx rfl hl hok
 ·exact given14L w T hx rfl (by omega)
end Lg
end Go.Proofs.YtnbdoidccacdnaaGreatDoor
