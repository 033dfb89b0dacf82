/-
  Joined, of what this claim leans on: Y5, Y6, Y7, Pj, Pk, Pq, Y8, Lv, Le, Pf, Lg, M4, W3, Y2, Y9, Li.
-/
import Derived.Deep.AppendLies
import Derived.Deep.Slices
import Derived.ChangeSame
import Derived.Test.YtnbdoidccacdnaaGreatDoorJRfftScale6
set_option linter.unusedVariables false
set_option linter.unusedSimpArgs false
set_option maxRecDepth 100000
set_option maxHeartbeats 16000000
namespace Go.Proofs.YtnbdoidccacdnaaGreatDoor
namespace Y5
open Ieee Go Go.RowKit Go.Proofs Go.Proofs.YtnbdoidccacdnaaGreatDoor Ow Dt Gp I0 U0 W0 S4 S6 P0 M0 M1 M3 W4 W5 V2 P4 Y3 Yh Y4 Y1 P8 Pc
open Go.Proofs.YtnbdoidccacdnaaGreatDoor.V1 (NI St ni_same ni_loop St.refl St.of_bel blk_keep ni_blk put_st)
open Go.Proofs.YtnbdoidccacdnaaGreatDoor.C6 (leaveAny)
open Go.Proofs.YtnbdoidccacdnaaGreatDoor.Pg (In)
attribute [local go_sem ↓] Go.wp_at_zero Go.wp_at_succ
attribute [local go_sem] Oper.semAt_some
theorem log_pow : ∀ p : Fin 8, logI (2 ^ p.val) = (p.val : Int) := by decide +kernel
theorem logI_pow {n p : Nat} (h : n = 2 ^ p) (hp : p ≤ 7) : logI n = (p : Int) := by subst h; exact log_pow ⟨p, by omega⟩
theorem fk_zero {w : World} {b N : Nat} (K : Blk w b 50 (List.replicate N (.float .f64 0))) : Fk w b (List.replicate N 0) :=
 ⟨_, K, by simp, fun j v hv => by
  rw [List.getElem?_replicate] at hv
  split at hv
  ·rename_i h
   cases hv
   exact ⟨0, rfl, by decide, by simp [nthN, List.getD_eq_getElem?_getD, List.getElem?_replicate, h, cn_zero]⟩
  ·cases hv⟩
def upTo (f : Nat → Nat) (n k : Nat) : List Nat := (List.range n).map fun i => if i < k then f i else 0
theorem upTo_len (f : Nat → Nat) (n k : Nat) : (upTo f n k).length = n := by simp [upTo]
theorem upTo_zero (f : Nat → Nat) (n : Nat) : upTo f n 0 = List.replicate n 0 := by
 apply List.ext_getElem (by simp [upTo])
 intro i h1 h2
 simp [upTo]
theorem upTo_all (f : Nat → Nat) (n : Nat) : upTo f n n = (List.range n).map f := by
 apply List.ext_getElem (by simp [upTo])
 intro i h1 h2
 have : i < n := by simpa [upTo] using h1
 simp [upTo, this]
theorem upTo_two (f : Nat → Nat) {n k : Nat} (h : 2 * k + 1 < n) {a b : Nat} (ha : a = f (2 * k)) (hb : b = f (2 * k + 1)) : ((upTo f n (2 * k)).set (2 * k) a).set (2 * k + 1) b = upTo f n (2 * (k + 1)) := by
 subst ha; subst hb
 apply List.ext_getElem (by simp [upTo])
 intro i h1 h2
 simp only [upTo, List.getElem_set, List.getElem_map, List.getElem_range]
 by_cases e1 : 2 * k + 1 = i
 ·subst e1; rw [if_pos rfl, if_pos (by omega)]
 ·rw [if_neg e1]
  by_cases e2 : 2 * k = i
  ·subst e2; rw [if_pos rfl, if_pos (by omega)]
  ·rw [if_neg e2]
   by_cases h3 : i < 2 * k
   ·rw [if_pos h3, if_pos (by omega)]
   ·rw [if_neg h3, if_neg (by omega)]
def frm (u : Nat → Value) (pz po pp pw pk px : Value) : Act := { tmps := #[u 0, u 1, u 2, u 3, u 4, pz, po, pp, u 8, u 9, u 10, u 11, pw, pk, px, u 15, u 16, u 17, u 18, u 19, u 20, u 21, u 22, u 23, u 24, u 25, u 26, u 27, u 28, u 29, u 30, u 31, u 32, u 33, u 34, u 35, u 36, u 37, u 38, u 39, u 40, u 41, u 42, u 43, u 44, u 45, u 46, u 47, u 48, u 49, u 50, u 51, u 52, u 53, u 54, u 55, u 56, u 57, u 58, u 59, u 60, u 61, u 62, u 63, u 64, u 65, u 66, u 67, u 68, u 69, u 70, u 71, u 72, u 73, u 74, u 75, u 76, u 77, u 78, u 79, u 80, u 81, u 82, u 83, u 84, u 85, u 86, u 87, u 88, u 89, u 90, u 91, u 92, u 93, u 94, u 95, u 96, u 97, u 98, u 99, u 100, u 101, u 102, u 103, u 104, u 105, u 106, u 107, u 108, u 109, u 110, u 111, u 112, u 113, u 114, u 115, u 116, u 117, u 118, u 119, u 120, u 121, u 122, u 123, u 124, u 125, u 126, u 127, u 128, u 129, u 130, u 131, u 132, u 133, u 134, u 135, u 136, u 137, u 138, u 139, u 140], defers := [] }
theorem frm_mk {a : Act} {pz po pp pw pk px : Value} (h : a = frm (fun i => a.tmps.getD i undef) pz po pp pw pk px) : ∃ u, a = frm u pz po pp pw pk px := ⟨_, h⟩
theorem bin_law {wd : Nat × Nat} {xa xb xc xd r1 s1 r2 s2 r3 s3 r4 s4 r5 s5 r6 s6 c5 d5 X0 X1 X2 X3 : Nat} (la : xa < 2 * sgnW) (ld : xd < 2 * sgnW) (ha : cn xa = X0) (hb : cn xb = X1) (hc : cn xc = X2) (hd : cn xd = X3)
  (h1 : cn r1 = fadd (cn xa) (cn xc) ∧ cn s1 = fadd (cn xb) (cn (Op.negFloat .f64 xd))) (h2 : cn r2 = fadd (cn xb) (cn xd) ∧ cn s2 = fadd (cn (Op.negFloat .f64 xa)) (cn xc))
  (h3 : cn r3 = fmul (cn r1) (cn 4602678819172646912) ∧ cn s3 = fmul (cn s1) (cn 4602678819172646912)) (h4 : cn r4 = fmul (cn r2) (cn 4602678819172646912) ∧ cn s4 = fmul (cn s2) (cn 4602678819172646912))
  (hw : cn c5 = wd.1 ∧ cn d5 = wd.2) (h5 : cn r5 = fadd (fmul (cn r4) (cn c5)) (fmul (cn s4) (cn d5)) ∧ cn s5 = fsub (fmul (cn s4) (cn c5)) (fmul (cn r4) (cn d5)))
  (h6 : cn r6 = fadd (cn r3) (cn r5) ∧ cn s6 = fadd (cn s3) (cn s5)) : cn r6 = (binG opsN wd X0 X1 X2 X3).1 ∧ cn s6 = (binG opsN wd X0 X1 X2 X3).2 := by
 have eh : cn 4602678819172646912 = halfW := by decide +kernel
 rw [neg_cn ld] at h1
 rw [neg_cn la] at h2
 rw [eh] at h3 h4
 rw [h6.1, h6.2, h3.1, h3.2, h5.1, h5.2, h4.1, h4.2, h1.1, h1.2, h2.1, h2.2, hw.1, hw.2, ha, hb, hc, hd]
 exact ⟨rfl, rfl⟩
theorem pack_at {p m k : Nat} {Z : List Nat × List Nat} (hk : 1 ≤ k) : packAt opsN (tabW p) m Z (2 * k) = (binG opsN (tabW p k) (nthN Z.1 k) (nthN Z.2 k) (nthN Z.1 (m - k)) (nthN Z.2 (m - k))).1 ∧ packAt opsN (tabW p) m Z (2 * k + 1) = (binG opsN (tabW p k) (nthN Z.1 k) (nthN Z.2 k) (nthN Z.1 (m - k)) (nthN Z.2 (m - k))).2 := by
 unfold packAt
 constructor
 ·rw [if_neg (by omega), if_neg (by omega), if_pos (by omega), show 2 * k / 2 = k by omega]; rfl
 ·rw [if_neg (by omega), if_neg (by omega), if_neg (by omega), show (2 * k + 1) / 2 = k by omega]; rfl
theorem dRfftOk {A : Option Addr} {c p : Nat} {X : List Nat} (w : World) (T : Tab w) (hx : In w (.slice A X.length c) X) (hp : X.length = 2 ^ p) (h1 : 1 ≤ p) (hp7 : p ≤ 7) :
  Calls Tryz.prog 38 #[.slice A X.length c] w fun e w' => ∃ b, e = .returned (.tuple #[.slice (some ⟨b, 0, none⟩) X.length X.length, .int .i64 0]) ∧ Fk w' b (rfftN p X) ∧ w.heap.size ≤ b ∧ Bel w w' := by
 obtain ⟨m, hm⟩ : ∃ m, m = 2 ^ (p - 1) := ⟨_, rfl⟩
 have hn2 : X.length = 2 * m := by rw [hm, ← two_half h1]; exact hp
 have hm1 : 1 ≤ m := by rw [hm]; exact Nat.two_pow_pos _
 have hm0 : 0 < m := hm1
 have hn128 : X.length ≤ 128 := by rw [hp]; exact Nat.le_trans (Nat.pow_le_pow_right (by decide) hp7) (by decide)
 have hm64 : m ≤ 64 := by omega
 have HP := Ho.mk hp
 have HM := Ho.mk hm
 have HN2 := Ho.mk hn2
 have TT := Ho.mk T
 have HX := Ho.mk hx
 have C0 := dLogR (n := X.length) rfl w (by omega) T
 rw [logI_pow hp hp7] at C0
 have C0 := Ho.mk C0
 have C1 := Ho.mk (dEven w hx (by omega))
 have lE : (M2.evenG opsN X).length = m := by rw [M2.evenG_len]; omega
 have lO : (M2.oddG opsN X).length = m := by rw [M2.oddG_len]; omega
 obtain ⟨Ze, hZe⟩ : ∃ Ze, Ze = M2.evenG opsN X := ⟨_, rfl⟩
 obtain ⟨Zo, hZo⟩ : ∃ Zo, Zo = M2.oddG opsN X := ⟨_, rfl⟩
 rw [← hZe] at lE C1
 rw [← hZo] at lO
 have HZ := Ho.mk (And.intro hZe hZo)
 have LE := Ho.mk lE
 have LO := Ho.mk lO
 clear hp hm T hx hZe hZo lE lO hn2
 refine (callsIn_wide (n := 3)).1 ?_
 refine callsIn_of_wp_marks Tryz.func38 rfl trivial ?_ rfl
 simp only [Tryz.ntmps38, List.size_toArray, List.length_cons, List.length_nil, Nat.reduceAdd, Nat.reduceSub, Array.replicate_succ, Array.replicate_zero, List.push_toArray, List.append_toArray, List.nil_append, List.cons_append]
 refine wpIn_wide.2 ?_
 go_wp2_with fail
 (with_reducible refine C0.out.mono ?_); rintro e w0 ⟨rfl, rfl⟩
 clear C0
 go_wp2_with fail
 (with_reducible refine C1.out.mono ?_); rintro e w1 ⟨A1, cE, rfl, g1, b1⟩
 obtain ⟨bE, cq, e, hcE, hcE2, H⟩ := (Hp.nil (Bel.refl w)).rowF b1 (Og.rowF g1.1 g1.2) (by rw [LE.out]; exact hm1)
 rw [LE.out] at e hcE ⊢
 cases e
 replace H := Ho.mk H
 have CE := Ho.mk (And.intro hcE hcE2)
 have C2 := dOdd w1 (HX.out.bel b1) (by omega)
 rw [← HZ.out.2] at C2
 have C2 := Ho.mk C2
 clear C1 g1 b1 hcE hcE2
 go_wp2_with fail
 (with_reducible refine C2.out.mono ?_); rintro e w2 ⟨A1, cO, rfl, g1, b1⟩
 obtain ⟨bO, cq, e, hcO, hcO2, H⟩ := H.out.rowF b1 (Og.rowF g1.1 g1.2) (by rw [LO.out]; exact hm1)
 rw [LO.out] at e hcO ⊢
 cases e
 replace H := Ho.mk H
 have CO := Ho.mk (And.intro hcO hcO2)
 clear C2 g1 b1 hcO hcO2
 go_upto_region 5 with fail
 replace H := Ho.mk (H.out.box [.slice (some ⟨bE, 0, none⟩) m cE, .slice (some ⟨bO, 0, none⟩) m cO] 24)
 generalize w2.alloc (.cells #[.slice (some ⟨bE, 0, none⟩) m cE, .slice (some ⟨bO, 0, none⟩) m cO] 24) = w3 at *
 generalize w2.heap.size = bz at *
 have y0 := (H.out.blk 0 rfl).cell (i := 0) rfl
 have y1 := (H.out.blk 0 rfl).cell (i := 1) rfl
 have C3 := Ho.mk (dInto (p := p - 1) (N := m) w3 (TT.out.bel H.out.bel) (H.out.row 2 rfl) (H.out.row 1 rfl) (H.out.ne 2 1 rfl rfl) HM.out LE.out LO.out (by omega) CE.out.1 CO.out.1 CE.out.2 CO.out.2)
 go_wp2_with fail
 (with_reducible refine C3.out.mono ?_); rintro e w4 ⟨rfl, f1, f2, G⟩
 replace H := Ho.mk (H.out.gr2 2 1 rfl rfl G (by decide) f1 f2)
 simp only [List.set_cons_zero, List.set_cons_succ] at H
 obtain ⟨Z, hZ⟩ : ∃ Z, Z = intoG opsN (bitsG (p - 1)) (p - 1) (tabW (p - 1)) (Ze, Zo) := ⟨_, rfl⟩
 rw [← hZ] at H
 have ZR := Ho.mk (show Z = rfftZ p X by unfold rfftZ intoN; rw [← HZ.out.1, ← HZ.out.2]; exact hZ)
 have ZL := Ho.mk (show Z.1.length = m ∧ Z.2.length = m by rw [hZ]; have := intoN_len (p := p - 1) (st := (Ze, Zo)) (by rw [← HM.out]; exact LE.out) (by rw [← HM.out]; exact LO.out); rw [← HM.out] at this; exact this)
 clear C3 f1 f2 G hZ y0 y1
 go_wp2_with (at_make; refine wpList_mk _ rfl _ _ 97 rfl 50 (.float .f64 0) 8 Tryz.underlying97 infoF rfl X.length rfl rfl (by omega) (by omega) ?_; intro w5 hk5 hb5 hs5)
 replace H := Ho.mk (H.out.new (e := .whole w4.heap.size (List.replicate X.length 0)) hb5 (fk_zero hk5) (Nat.le_refl _))
 clear hk5 hb5
 generalize w4.heap.size = bo at *
 replace H := Ho.mk (H.out.box [.func (.func 80) #[.slice (some ⟨bo, 0, none⟩) X.length X.length] #[]] 98)
 rw [hs5] at H
 clear hs5
 generalize w5.alloc (.cells #[.func (.func 80) #[.slice (some ⟨bo, 0, none⟩) X.length X.length] #[]] 98) = w6 at *
 have ZL1 := ZL.out.1
 have ZL2 := ZL.out.2
 have y0 := (H.out.blk 2 rfl).cell (i := 0) rfl
 have y1 := (H.out.blk 2 rfl).cell (i := 1) rfl
 obtain ⟨r0, x0, l0, c0⟩ := (H.out.row 4 rfl).at_ (i := 0) (by omega)
 obtain ⟨r1, x1, l1, c1⟩ := (H.out.row 3 rfl).at_ (i := 0) (by omega)
 have RL := Ho.mk (And.intro (And.intro l0 c0) (And.intro l1 c1))
 have AD := Ho.mk (fun w => P2.dCAdd w RL.out.1.1 (show 0 < 2 * sgnW by decide) RL.out.2.1 (show 0 < 2 * sgnW by decide))
 have SU := Ho.mk (fun w => P2.dCSub w RL.out.1.1 (show 0 < 2 * sgnW by decide) RL.out.2.1 (show 0 < 2 * sgnW by decide))
 clear l0 c0 l1 c1 ZL1 ZL2
 refine then_falseW ?_
 refine wp_region_held_drew (S := fun w' => Bel w6 w') (by kernel_rfl) (Bel.refl _).drew (fun hHeld => ?_)
 (try dsimp only at hHeld)
 refine rt (i := 0) hHeld ?_
 refine rl (i := 1) (v := ?_) hHeld (fun w' hSw => ?_) ?_
 rotate_left
 ·(have z0 := hSw.cell y0; go_simp; try (with_reducible rfl))
 refine rt (i := 2) hHeld ?_
 refine rl (i := 3) (v := ?_) hHeld (fun w' hSw => ?_) ?_
 rotate_left
 ·(have z0 := hSw.cell x0; go_simp; try (with_reducible rfl))
 refine rt (i := 4) hHeld ?_
 refine rl (i := 5) (v := ?_) hHeld (fun w' hSw => ?_) ?_
 rotate_left
 ·(have z0 := hSw.cell y1; go_simp; try (with_reducible rfl))
 refine rt (i := 6) hHeld ?_
 refine rl (i := 7) (v := ?_) hHeld (fun w' hSw => ?_) ?_
 rotate_left
 ·(have z0 := hSw.cell x1; go_simp; try (with_reducible rfl))
 try simp only [Act.put, List.setIfInBounds_toArray, List.set_cons_zero, List.set_cons_succ]
 refine rc (i := 8) (fun K hK => ?_)
 go_simp
 go_at_call 81
 (with_reducible refine (AD.out _).mono ?_); rintro e wqa ⟨ra, sa, rfl, la, ca, bqa⟩
 try go_wp2_with fail
 refine hK.out _ _ (Bel.trans hHeld bqa) (fun hHeld => ?_)
 clear hK K
 refine rt (i := 9) hHeld ?_
 refine rt (i := 10) hHeld ?_
 refine rt (i := 11) hHeld ?_
 refine rt (i := 12) hHeld ?_
 refine rt (i := 13) hHeld ?_
 try simp only [Act.put, List.setIfInBounds_toArray, List.set_cons_zero, List.set_cons_succ]
 refine wpAnyH_done (by kernel_rfl) ?_ _
 have Ha := Ho.mk (And.intro la.1 ca.1)
 have BQa := Ho.mk ((Bel.refl w6).drew.trans bqa)
 clear la ca hHeld
 have y0 := BQa.out.cell y0
 have y1 := BQa.out.cell y1
 have x0 := BQa.out.cell x0
 have x1 := BQa.out.cell x1
 go_upto_region 9 with fail
 refine then_falseW ?_
 refine wp_region_held_drew (S := fun w' => Bel wqa w') (by kernel_rfl) (Bel.refl _).drew (fun hHeld => ?_)
 (try dsimp only at hHeld)
 refine rt (i := 0) hHeld ?_
 refine rl (i := 1) (v := ?_) hHeld (fun w' hSw => ?_) ?_
 rotate_left
 ·(have z0 := hSw.cell y0; go_simp; try (with_reducible rfl))
 refine rt (i := 2) hHeld ?_
 refine rl (i := 3) (v := ?_) hHeld (fun w' hSw => ?_) ?_
 rotate_left
 ·(have z0 := hSw.cell x0; go_simp; try (with_reducible rfl))
 refine rt (i := 4) hHeld ?_
 refine rl (i := 5) (v := ?_) hHeld (fun w' hSw => ?_) ?_
 rotate_left
 ·(have z0 := hSw.cell y1; go_simp; try (with_reducible rfl))
 refine rt (i := 6) hHeld ?_
 refine rl (i := 7) (v := ?_) hHeld (fun w' hSw => ?_) ?_
 rotate_left
 ·(have z0 := hSw.cell x1; go_simp; try (with_reducible rfl))
 try simp only [Act.put, List.setIfInBounds_toArray, List.set_cons_zero, List.set_cons_succ]
 refine rc (i := 8) (fun K hK => ?_)
 go_simp
 go_at_call 82
 (with_reducible refine (SU.out _).mono ?_); rintro e wqb ⟨rb, sb, rfl, lb, cb, bqb⟩
 try go_wp2_with fail
 refine hK.out _ _ (Bel.trans hHeld bqb) (fun hHeld => ?_)
 clear hK K
 refine rt (i := 9) hHeld ?_
 refine rt (i := 10) hHeld ?_
 refine rt (i := 11) hHeld ?_
 refine rt (i := 12) hHeld ?_
 refine rt (i := 13) hHeld ?_
 try simp only [Act.put, List.setIfInBounds_toArray, List.set_cons_zero, List.set_cons_succ]
 refine wpAnyH_done (by kernel_rfl) ?_ _
 have Hb := Ho.mk (And.intro lb.1 cb.1)
 have BQb := Ho.mk ((Bel.refl wqa).drew.trans bqb)
 clear lb cb hHeld
 replace H := Ho.mk ((H.out.grow BQa.out).grow BQb.out)
 clear y0 y1 x0 x1 AD SU BQa BQb
 have y0 := (H.out.blk 0 rfl).cell (i := 0) rfl
 have PU := Ho.mk (dPut (n := X.length) (c := X.length) (k := 0) wqb (H.out.whole 1 rfl) (by have := HN2.out; omega) List.length_replicate (by omega) Ha.out.1 Hb.out.1)
 go_wp2_with fail
 (refine PU.out.mono ?_); rintro e w7 ⟨rfl, f1, G⟩
 replace H := Ho.mk (H.out.grW 1 rfl G f1)
 simp only [List.set_cons_zero, List.set_cons_succ] at H
 obtain ⟨pf, hpf⟩ : ∃ pf, pf = packAt opsN (tabW p) m Z := ⟨_, rfl⟩
 have e0 : cn ra = pf (2 * 0) := by rw [hpf, Ha.out.2, RL.out.1.2, RL.out.2.2]; rfl
 have e1 : cn rb = pf (2 * 0 + 1) := by rw [hpf, Hb.out.2, RL.out.1.2, RL.out.2.2]; rfl
 have e2 := upTo_two pf (n := X.length) (k := 0) (by have := HN2.out; omega) e0 e1
 rw [upTo_zero] at e2
 rw [e2] at H
 have HPF := Ho.mk hpf
 have TB := Ho.mk (dTable (q := p) (m := m) (qi := (p : Int)) (mi := (m : Int)) w7 (TT.out.bel H.out.bel) rfl (by omega) rfl (by omega))
 have ed : (X.length : Int).tdiv 2 = (m : Int) := by rw [HN2.out, Int.tdiv_eq_ediv_of_nonneg (by omega)]; omega
 clear f1 G hpf e0 e1 e2 PU y0
 go_wp2_with fail
 (with_reducible refine TB.out.mono ?_); rintro e w8 ⟨b1, b2, rfl, f1, f2, le1, lt2, bt⟩
 replace H := Ho.mk (H.out.comb (Hp.two bt f1 f2 le1 lt2))
 simp only [List.cons_append, List.nil_append] at H
 clear f1 f2 le1 lt2 bt TB
 go_upto_region 12 with fail
 replace H := Ho.mk (H.out.box [.slice (some ⟨b1, 0, none⟩) m m, .slice (some ⟨b2, 0, none⟩) m m] 24)
 generalize w8.alloc (.cells #[.slice (some ⟨b1, 0, none⟩) m m, .slice (some ⟨b2, 0, none⟩) m m] 24) = w9 at *
 generalize w8.heap.size = bw at *
 have y0 := (H.out.blk 5 rfl).cell (i := 0) rfl
 have y1 := (H.out.blk 5 rfl).cell (i := 1) rfl
 have EN := Ho.mk (dEndsP (A := some ⟨bE, 0, none⟩) (B := some ⟨bO, 0, none⟩) (m := m) (m' := m) (c := cE) (c' := cO) w9)
 go_wp2_with fail
 (with_reducible refine EN.out.mono ?_); rintro e w10 ⟨rfl, rfl⟩
 clear EN y0 y1
 replace H := Ho.mk (H.out.box [.slice (some ⟨bE, 0, none⟩) m cE, .slice (some ⟨bO, 0, none⟩) m cO] 24)
 generalize w9.alloc (.cells #[.slice (some ⟨bE, 0, none⟩) m cE, .slice (some ⟨bO, 0, none⟩) m cO] 24) = w10 at *
 generalize w9.heap.size = bs at *
 go_wp2_with fail
 have HB := Ho.mk H.out.bel
 have HBs := HB.out.size
 refine (wpIn_wide (n := 3)).1 ?_
 refine rangeB (α := E4) (encs := encE) (bs := [bo]) (N := m - 1) (Bd := False) (Px := fun pre x _ => x.k = pre.length + 1 ∧ x.Ok Z.1 Z.2 m) (S := fun zs => zs.length = m - 1) (Sp := fun _ => True)
  (by omega) rfl (fun args w => by rfl) (fun x => by rfl) (by intro k hk; simp at hk; subst hk; have q := H.out.ltI 5 rfl; exact q) ?_
  (fun pre O W => Hp w W ([.blk bs 24 [.slice (some ⟨bE, 0, none⟩) m cE, .slice (some ⟨bO, 0, none⟩) m cO], .blk bw 24 [.slice (some ⟨b1, 0, none⟩) m m, .slice (some ⟨b2, 0, none⟩) m m], .whole b1 ((List.range m).map fun k => (tabW p k).1), .whole b2 ((List.range m).map fun k => (tabW p k).2), .blk (bo + 1) 98 [.func (.func 80) #[.slice (some ⟨bo, 0, none⟩) X.length X.length] #[]], .whole bo (upTo pf X.length (2 * (pre.length + 1))), .blk bz 24 [.slice (some ⟨bE, 0, none⟩) m cE, .slice (some ⟨bO, 0, none⟩) m cO], .row bO Z.2, .row bE Z.1]) ∧ w10.heap.size ≤ W.heap.size ∧ ∀ k ∈ O, w10.heap.size ≤ k ∧ k < W.heap.size) (fun _ _ _ _ => False) (fun h => h.elim) (fun pre => hp_abides (by intro e he; simp at he; rcases he with rfl | rfl | rfl | rfl | rfl | rfl | rfl | rfl | rfl <;> first | (have q := H.out.ltI 0 rfl; exact q) | (have q := H.out.ltI 1 rfl; exact q) | (have q := H.out.ltI 2 rfl; exact q) | (have q := H.out.ltI 3 rfl; exact q) | (have q := H.out.ltI 4 rfl; exact q) | (have q := H.out.ltI 5 rfl; exact q) | (have q := H.out.ltI 6 rfl; exact q) | (have q := H.out.ltI 7 rfl; exact q) | (have q := H.out.ltI 8 rfl; exact q)) HBs) (fun _ _ _ _ _ _ h => h.elim) ?_
  (fun pre x a' W => ∃ kb, (∃ u, a' = frm u (.pointer (some ⟨bz, 0, none⟩)) (.slice (some ⟨bo, 0, none⟩) X.length X.length) (.pointer (some ⟨bo + 1, 0, none⟩)) (.pointer (some ⟨bw, 0, none⟩)) (.int .i64 (x.k : Int)) (.pointer (some ⟨kb, 0, none⟩))) ∧ Blk W kb 105 [.float .f64 x.a, .float .f64 x.b, .float .f64 x.c, .float .f64 x.d] ∧ x.k = pre.length + 1 ∧ x.Ok Z.1 Z.2 m) ?_ ?_ ?_ ?_ ?_
 ·-- the iterator's promise
  intro W hW hBW
  refine ends1 (m := m) (c := cE) (c' := cO) W (H.out.grow hBW |>.blk 0 rfl) ((H.out.grow hBW).row 8 rfl) ((H.out.grow hBW).row 7 rfl) ZL.out.1 ZL.out.2 hm1 (by omega) _ _ W _ (by omega) (Bel.refl W) ?_
  intro k hk
  simp at hk
  have n1 : bo ≠ bs := by have q := H.out.ne 5 0 rfl rfl; exact q
  have n2 : bo ≠ bE := by have q := H.out.ne 5 8 rfl rfl; exact q
  have n3 : bo ≠ bO := by have q := H.out.ne 5 7 rfl rfl; exact q
  have m1 : bs < w10.heap.size := by have q := H.out.ltI 0 rfl; exact q
  have m2 : bE < w10.heap.size := by have q := H.out.ltI 8 rfl; exact q
  have m3 : bO < w10.heap.size := by have q := H.out.ltI 7 rfl; exact q
  simp
  rcases hk with rfl | rfl
  ·exact ⟨n1, n2, n3⟩
  ·omega
 ·exact ⟨H.out, Nat.le_refl _, by simp⟩
 ·-- the loop's record
  rintro pre x a' V r o hr ⟨kb, hu, hk, h3⟩
  refine ⟨kb, hu, blk_keep hk (World.putObj_heap_other ?_), h3⟩
  rintro rfl
  have := hk.out
  rw [hr] at this; simp at this
 ·-- the loop's variables
  rintro l pre O x W K hI hsz hx hK
  simp [encE]
  gi_wp2
  refine hK _ _ ((Bel.refl W).alloc _) ⟨W.heap.size, frm_mk (by rfl), Blk.new W [.float .f64 x.a, .float .f64 x.b, .float .f64 x.c, .float .f64 x.d] _, hx.1, hx.2⟩
 ·-- a round
  rintro l pre O x a' W ⟨hH, hB, hO2⟩ hlen hsz ⟨kb, ⟨u, rfl⟩, hk, hxk, hxo⟩ hO hlO
  obtain ⟨xk, xa, xb, xc, xd⟩ := x
  dsimp only at hk hxk hxo ⊢
  subst hxk
  obtain ⟨⟨⟨la, lb⟩, lc, ld⟩, ⟨ca, cb⟩, cc, cd⟩ := hxo
  dsimp only at la lb lc ld ca cb cc cd
  have HK := Ho.mk hk
  have HH := Ho.mk hH
  have FW := Ho.mk (hH.whole 5 rfl)
  have HA := Ho.mk (And.intro (And.intro la lb) (And.intro lc ld))
  have HC := Ho.mk (And.intro (And.intro ca cb) (And.intro cc cd))
  have HO := Ho.mk hO2
  clear hk hH la lb lc ld ca cb cc cd hO2
  dsimp only [frm]
  refine wpIn_block ?_
  have x0 := (HK.out).cell (i := 0) rfl
  have x1 := (HK.out).cell (i := 1) rfl
  have x2 := (HK.out).cell (i := 2) rfl
  have x3 := (HK.out).cell (i := 3) rfl
  have C1 := Ho.mk (P2.dCAdd W HA.out.1.1 HA.out.1.2 HA.out.2.1 (fng_lt' HA.out.2.2))
  gi_wp2_with fail
  refine ⟨by first | trivial | (intro h; cases h), (CallsIn.inRound l (callsIn_wide.2 C1.out)).mono ?_⟩
  rintro e v1 ⟨r1, s1, rfl, l1, c1, b1⟩
  have H1 := Ho.mk (And.intro l1 c1)
  have B1 := Ho.mk b1
  clear C1 l1 c1 b1
  clear x0 x1 x2 x3
  have x0 := (HK.out.bel B1.out).cell (i := 0) rfl
  have x1 := (HK.out.bel B1.out).cell (i := 1) rfl
  have x2 := (HK.out.bel B1.out).cell (i := 2) rfl
  have x3 := (HK.out.bel B1.out).cell (i := 3) rfl
  have C2 := Ho.mk (P2.dCAdd v1 HA.out.1.2 (fng_lt' HA.out.1.1) HA.out.2.2 HA.out.2.1)
  gi_wp2_with fail
  refine ⟨by first | trivial | (intro h; cases h), (CallsIn.inRound l (callsIn_wide.2 C2.out)).mono ?_⟩
  rintro e v2 ⟨r2, s2, rfl, l2, c2, b2⟩
  have H2 := Ho.mk (And.intro l2 c2)
  have B2 := Ho.mk b2
  clear C2 l2 c2 b2
  clear x0 x1 x2 x3
  have C3 := Ho.mk (P0.dHalf v2 H1.out.1.1 H1.out.1.2)
  gi_wp2_with fail
  refine ⟨by first | trivial | (intro h; cases h), (CallsIn.inRound l (callsIn_wide.2 C3.out)).mono ?_⟩
  rintro e v3 ⟨r3, s3, rfl, l3, c3, b3⟩
  have H3 := Ho.mk (And.intro l3 c3)
  have B3 := Ho.mk b3
  clear C3 l3 c3 b3
  have C4 := Ho.mk (P0.dHalf v3 H2.out.1.1 H2.out.1.2)
  gi_wp2_with fail
  refine ⟨by first | trivial | (intro h; cases h), (CallsIn.inRound l (callsIn_wide.2 C4.out)).mono ?_⟩
  rintro e v4 ⟨r4, s4, rfl, l4, c4, b4⟩
  have H4 := Ho.mk (And.intro l4 c4)
  have B4 := Ho.mk b4
  clear C4 l4 c4 b4
  have BB := Ho.mk (((B1.out.trans B2.out).trans B3.out).trans B4.out)
  replace HH := Ho.mk (HH.out.grow BB.out)
  have y0 := (HH.out.blk 1 rfl).cell (i := 0) rfl
  have y1 := (HH.out.blk 1 rfl).cell (i := 1) rfl
  obtain ⟨c5, x0, cl5, cc5⟩ := (HH.out.whole 2 rfl).at_ (i := pre.length + 1) (by simp; omega)
  obtain ⟨d5, x1, dl5, dc5⟩ := (HH.out.whole 3 rfl).at_ (i := pre.length + 1) (by simp; omega)
  rw [nthN_lt (by simp; omega)] at cc5 dc5
  simp only [List.getElem_map, List.getElem_range] at cc5 dc5
  have HW := Ho.mk (And.intro (And.intro cl5 dl5) (And.intro cc5 dc5))
  have hi1 : 0 ≤ (pre.length : Int) + 1 := by omega
  have hi2 : (pre.length : Int) + 1 < (m : Int) := by omega
  have C5 := Ho.mk (fun w => P2.dCTurn w H4.out.1.1 H4.out.1.2 HW.out.1.1 HW.out.1.2)
  clear cl5 dl5 cc5 dc5
  gi_wp2_with fail
  refine Yi.held_round (S := fun w' => Bel v4 w') (by kernel_rfl) (by intro o ho c e; simp at ho; rcases ho with rfl | rfl | rfl | rfl | rfl | rfl | rfl | rfl | rfl | rfl | rfl | rfl | rfl | rfl | rfl | rfl | rfl | rfl <;> cases e) (by rintro ⟨_, _, h⟩; exact h) (Bel.refl _).drew (fun hHeld => ?_)
  (try dsimp only at hHeld)
  refine rt (i := 0) hHeld ?_
  refine rt (i := 1) hHeld ?_
  refine rt (i := 2) hHeld ?_
  refine rl (i := 3) (v := ?_) hHeld (fun w' hSw => ?_) ?_
  rotate_left
  ·(have z0 := hSw.cell y0; go_simp; try (with_reducible rfl))
  refine rt (i := 4) hHeld ?_
  refine rt (i := 5) hHeld ?_
  refine rl (i := 6) (v := ?_) hHeld (fun w' hSw => ?_) ?_
  rotate_left
  ·(have z0 := hSw.cell x0; go_simp; try (with_reducible rfl))
  refine rt (i := 7) hHeld ?_
  refine rl (i := 8) (v := ?_) hHeld (fun w' hSw => ?_) ?_
  rotate_left
  ·(have z0 := hSw.cell y1; go_simp; try (with_reducible rfl))
  refine rt (i := 9) hHeld ?_
  refine rt (i := 10) hHeld ?_
  refine rl (i := 11) (v := ?_) hHeld (fun w' hSw => ?_) ?_
  rotate_left
  ·(have z0 := hSw.cell x1; go_simp; try (with_reducible rfl))
  try simp only [Act.put, List.setIfInBounds_toArray, List.set_cons_zero, List.set_cons_succ]
  refine rc (i := 12) (fun K hK => ?_)
  go_simp
  go_at_call 86
  (with_reducible refine (C5.out _).mono ?_); rintro e v5 ⟨r5, s5, rfl, l5, c5', b5⟩
  try go_wp2_with fail
  refine hK.out _ _ (Bel.trans hHeld b5) (fun hHeld => ?_)
  clear hK K
  refine rt (i := 13) hHeld ?_
  refine rt (i := 14) hHeld ?_
  refine rt (i := 15) hHeld ?_
  refine rt (i := 16) hHeld ?_
  refine rt (i := 17) hHeld ?_
  try simp only [Act.put, List.setIfInBounds_toArray, List.set_cons_zero, List.set_cons_succ]
  refine wpAnyH_done (by kernel_rfl) ?_ _
  have H5 := Ho.mk (And.intro l5 c5')
  have B5 := Ho.mk ((Bel.refl v4).drew.trans b5)
  replace HH := Ho.mk (HH.out.grow B5.out)
  clear y0 y1 x0 x1 l5 c5' C5 hHeld b5
  have C6 := Ho.mk (P2.dCAdd v5 H3.out.1.1 H3.out.1.2 H5.out.1.1 H5.out.1.2)
  gi_wp2_with fail
  refine ⟨by first | trivial | (intro h; cases h), (CallsIn.inRound l (callsIn_wide.2 C6.out)).mono ?_⟩
  rintro e v6 ⟨r6, s6, rfl, l6, c6, b6⟩
  have H6 := Ho.mk (And.intro l6 c6)
  replace HH := Ho.mk (HH.out.grow b6)
  replace BB := Ho.mk ((BB.out.trans B5.out).trans b6)
  clear C6 l6 c6 b6
  have y0 := (HH.out.blk 4 rfl).cell (i := 0) rfl
  have C7 := Ho.mk (dPut (n := X.length) (c := X.length) (k := pre.length + 1) v6 (HH.out.whole 5 rfl) (by have := HN2.out; omega) (upTo_len _ _ _) (by omega) H6.out.1.1 H6.out.1.2)
  gi_wp2_with fail
  refine ⟨by first | trivial | (intro h; cases h), (CallsIn.inRound l (callsIn_wide.2 C7.out)).mono ?_⟩
  rintro e v7 ⟨rfl, f7, G7⟩
  clear C7 y0
  gi_wp2_with fail
  have e8 := bin_law (wd := tabW p (pre.length + 1)) HA.out.1.1 HA.out.2.2 HC.out.1.1 HC.out.1.2 HC.out.2.1 HC.out.2.2 H1.out.2 H2.out.2 H3.out.2 H4.out.2 HW.out.2 H5.out.2 H6.out.2
  have e9 := pack_at (p := p) (m := m) (k := pre.length + 1) (Z := Z) (by omega)
  rw [← e9.1, ← e9.2, ← HPF.out] at e8
  have e2 := upTo_two pf (n := X.length) (k := pre.length + 1) (by have := HN2.out; omega) e8.1 e8.2
  have HF := HH.out.grW 5 rfl G7 f7
  simp only [List.set_cons_zero, List.set_cons_succ] at HF
  rw [e2] at HF
  have q5 := H.out.ltI 5 rfl
  have q6 : bo < w10.heap.size := q5
  refine ⟨yd_gr ((BB.out.gr bo).trans G7) FW.out (by simp) (fun q => by have := (HO.out _ q).1; omega), ?_, ?_, ?_⟩
  ·rw [List.length_append, List.length_singleton]; exact HF
  ·have := BB.out.size; have := G7.size; omega
  ·intro k hk
   have := HO.out k hk; have := BB.out.size; have := G7.size
   omega
 ·-- all have come
  rintro zs O W hsz hzs ⟨hH, hB, hO2⟩ hd
  have F := hH.whole 5 rfl
  have G5 := hH.geI 5 rfl
  have G6 : w.heap.size ≤ bo := G5
  have q5 := H.out.ltI 5 rfl
  have q6 : bo < w10.heap.size := q5
  rw [hzs, show 2 * (m - 1 + 1) = X.length by have := HN2.out; omega, upTo_all] at F
  have eR : (List.range X.length).map pf = rfftN p X := by unfold rfftN; rw [HPF.out, ZR.out, HP.out, HM.out]
  rw [eR] at F
  have HF := Ho.mk F
  have HBW := Ho.mk hH.bel
  clear F hH hO2
  go_wp2_with fail
  refine leaveAny hd ?_
  go_ret2
  exact ⟨bo, rfl, ⟨HF.out.out.choose, ⟨(World.putObj_heap_other (by omega)).trans HF.out.out.choose_spec.1.out⟩, HF.out.out.choose_spec.2⟩, G6, ⟨⟨HBW.out.out.os, HBW.out.out.tape, HBW.out.out.output, by have := HBW.out.size; simpa [World.putObj] using this, fun j hj => (World.putObj_heap_other (by have := HB.out.size; omega)).trans (HBW.out.out.block j hj)⟩⟩⟩
 ·rintro c pre O W hsz _ hI; exact hI.elim
end Y5
namespace Y6
open Ieee Go Go.RowKit Go.Proofs Go.Proofs.YtnbdoidccacdnaaGreatDoor Ow Dt Gp I0 U0 W0 S4 S6 P0 M0 M1 M3 W4 W5 V2 P4 Y3 Yh Y4 Y1 P8 Pc Y5
open Go.Proofs.YtnbdoidccacdnaaGreatDoor.V1 (NI St ni_same ni_loop St.refl St.of_bel blk_keep ni_blk put_st)
open Go.Proofs.YtnbdoidccacdnaaGreatDoor.C6 (leaveAny)
open Go.Proofs.YtnbdoidccacdnaaGreatDoor.Pg (In)
attribute [local go_sem ↓] Go.wp_at_zero Go.wp_at_succ
def okR (n : Nat) : Bool := decide (1 ≤ logI n)
def rfR (X : List Nat) : List Nat := if okR X.length then rfftN (Nat.log2 X.length) X else []
def errF (X : List Nat) : Int := if okR X.length then 0 else 2
theorem okR_pow {n : Nat} (h : okR n = true) : n = 2 ^ Nat.log2 n ∧ 1 ≤ Nat.log2 n ∧ n ≤ 1024 := by
 unfold okR at h
 have h := of_decide_eq_true h
 unfold logI at h
 split at h
 ·rename_i q; exact ⟨q.2.1.symm, by omega, q.2.2⟩
 ·omega
theorem logI_bad {n : Nat} (h : okR n = false) : logI n < 1 := by
 unfold okR at h
 have := of_decide_eq_false h
 omega
theorem log_7 {n : Nat} (h : n ≤ 128) (h2 : n = 2 ^ Nat.log2 n) : Nat.log2 n ≤ 7 := by
 apply Nat.le_of_not_lt; intro q
 have : 2 ^ 8 ≤ 2 ^ Nat.log2 n := Nat.pow_le_pow_right (by decide) q
 rw [← h2] at this; omega
def MakesRE (w : World) (Z : List Nat) (z : Int) (e : Ending) (w' : World) : Prop := ∃ A c, e = .returned (.tuple #[.slice A Z.length c, .int .i64 z]) ∧ RowF w' w.heap.size (.slice A Z.length c) Z ∧ Bel w w'
theorem dRfftBad {A : Option Addr} {c n : Nat} (w : World) (T : Tab w) (hn : n ≤ 128) (hb : okR n = false) :
  Calls Tryz.prog 38 #[.slice A n c] w fun e w' => e = .returned (.tuple #[.slice none 0 0, .int .i64 2]) ∧ Bel w w' := by
 have hl := logI_bad hb
 obtain ⟨z, hz⟩ : ∃ z, z = logI n := ⟨_, rfl⟩
 have C0 := dLogR (n := n) rfl w (by omega) T
 rw [← hz] at C0 hl
 have C0 := Ho.mk C0
 clear T hb hz
 go_enter Tryz.func38, Tryz.ntmps38
 go_wp2_with fail
 (with_reducible refine C0.out.mono ?_); rintro e w1 ⟨rfl, rfl⟩
 clear C0
 go_wp2
 go_ret2
 exact ⟨rfl, Bel.refl _⟩
theorem dRfft {A : Option Addr} {c : Nat} {X : List Nat} (w : World) (T : Tab w) (hx : In w (.slice A X.length c) X) (hl : X.length ≤ 128) :
  Calls Tryz.prog 38 #[.slice A X.length c] w (MakesRE w (rfR X) (errF X)) := by
 unfold rfR errF
 cases hb : okR X.length with
 | true =>
  obtain ⟨h1, h2, _⟩ := okR_pow hb
  refine (dRfftOk w T hx h1 h2 (log_7 hl h1)).mono ?_
  rintro e w' ⟨b, rfl, F, hB, g⟩
  have l := rfftN_len (Nat.log2 X.length) X
  rw [← h1] at l
  simp only [if_true]
  refine ⟨some ⟨b, 0, none⟩, X.length, by rw [l], ?_, g⟩
  exact RowF.of F.fz hB (by rw [l]; exact Nat.le_refl _) (by omega)
 | false =>
  refine (dRfftBad w T hl hb).mono ?_
  rintro e w' ⟨rfl, g⟩
  exact ⟨none, 0, rfl, RowF.nil _ _ _ _ (by decide), g⟩
end Y6
namespace Y7
open Ieee Go Go.RowKit Go.Proofs Go.Proofs.YtnbdoidccacdnaaGreatDoor Ow Dt Gp I0 U0 W0 S4 S6 P0 M0 M1 M3 W4 W5 V2 P4 Y3 Yh Y4 Y1 P8 Pc Y5 Y6
open Go.Proofs.YtnbdoidccacdnaaGreatDoor.V1 (NI St ni_same ni_loop St.refl St.of_bel blk_keep ni_blk put_st)
open Go.Proofs.YtnbdoidccacdnaaGreatDoor.C6 (leaveAny)
open Go.Proofs.YtnbdoidccacdnaaGreatDoor.Pg (In two_nil)
attribute [local go_sem ↓] Go.wp_at_zero Go.wp_at_succ
theorem resVB {fn : Func} {p q : Tmp} {tmps : Array Value} {w : World} {b : Nat} {v0 v1 : Value} {z : Bool} (hf : fn.results = #[.cell p 24, .tmp q]) (hp : tmps.getD p undef = .pointer (some ⟨b, 0, none⟩)) (hq : tmps.getD q undef = .bool z) (h : Blk w b 24 [v0, v1]) :
  (results fn tmps).run Tryz.prog w = .ok (.tuple #[.agg #[v0, v1], .bool z]) w := by
 have y0 := h.cell (i := 0) rfl
 have y1 := h.cell (i := 1) rfl
 have hp2 := hp
 have hq2 := hq
 rw [Array.getD_eq_getD_getElem?] at hp2 hq2
 simp [results, hf, hp2, hq2, go_sem, y0, y1]
def MakesVB (W0 : World) (X Y : List Nat) (z : Bool) (e : Ending) (w' : World) : Prop := ∃ A c B c', e = .returned (.tuple #[.agg #[.slice A X.length c, .slice B Y.length c'], .bool z]) ∧ Two w' W0.heap.size (.slice A X.length c) (.slice B Y.length c') X Y ∧ Bel W0 w'
def binsRe (X : List Nat) : List Nat := if okR X.length then M2.evenG opsN X ++ [nthN (M2.oddG opsN X) 0] else []
def binsIm (X : List Nat) : List Nat := if okR X.length then (M2.oddG opsN X).set 0 0 ++ [0] else []
theorem dBinsBad {A : Option Addr} {c n : Nat} (w : World) (T : Tab w) (hn : n ≤ 128) (hb : okR n = false) :
  Calls Tryz.prog 40 #[.slice A n c] w (MakesVB w [] [] false) := by
 have hl := logI_bad hb
 obtain ⟨z, hz⟩ : ∃ z, z = logI n := ⟨_, rfl⟩
 have C0 := dLogR (n := n) rfl (w.alloc (.cells #[.slice none 0 0, .slice none 0 0] 24)) (by omega) (T.bel ((Bel.refl w).alloc _))
 rw [← hz] at C0 hl
 have C0 := Ho.mk C0
 have H := Ho.mk ((Hp.nil (Bel.refl w)).box [.slice none 0 0, .slice none 0 0] 24)
 clear T hb hz
 go_enter Tryz.func40, Tryz.ntmps40
 go_wp2_with fail
 generalize w.alloc (.cells #[.slice none 0 0, .slice none 0 0] 24) = w0 at *
 (with_reducible refine C0.out.mono ?_); rintro e w1 ⟨rfl, rfl⟩
 have y0 := (H.out.blk 0 rfl).cell (i := 0) rfl
 have y1 := (H.out.blk 0 rfl).cell (i := 1) rfl
 have z0 := (H.out.blk 0 rfl).free 0
 have z1 := (H.out.blk 0 rfl).free 1
 clear C0
 go_wp2_with fail
 have H2 := (H.out.set 0 rfl 0 (.slice none 0 0))
 have H3 := (H2.set 0 rfl 1 (.slice none 0 0))
 refine bodyPost_ret (resVB (fn := Tryz.f40) rfl rfl rfl (H3.blk 0 rfl)) rfl ⟨none, 0, none, 0, rfl, two_nil _ _, H3.bel⟩
theorem dBinsOk {A : Option Addr} {c m : Nat} {X : List Nat} (w : World) (T : Tab w) (hx : In w (.slice A X.length c) X) (hn : X.length = 2 * m) (hm : 1 ≤ m) (hl : X.length ≤ 128) (hok : okR X.length = true) :
  Calls Tryz.prog 40 #[.slice A X.length c] w (MakesVB w (M2.evenG opsN X ++ [nthN (M2.oddG opsN X) 0]) ((M2.oddG opsN X).set 0 0 ++ [0]) true) := by
 have hl1 : 1 ≤ logI X.length := of_decide_eq_true hok
 obtain ⟨z, hz⟩ : ∃ z, z = logI X.length := ⟨_, rfl⟩
 have C0 := dLogR (n := X.length) rfl (w.alloc (.cells #[.slice none 0 0, .slice none 0 0] 24)) (by omega) (T.bel ((Bel.refl w).alloc _))
 rw [← hz] at C0 hl1
 have C0 := Ho.mk C0
 have B0 := Ho.mk ((Bel.refl w).alloc (.cells #[.slice none 0 0, .slice none 0 0] 24))
 have KR := Ho.mk (Blk.new w [.slice none 0 0, .slice none 0 0] 24)
 have lE : (M2.evenG opsN X).length = m := by rw [M2.evenG_len]; omega
 have lO : (M2.oddG opsN X).length = m := by rw [M2.oddG_len]; omega
 have HX := Ho.mk hx
 obtain ⟨Ze, hZe⟩ : ∃ Ze, Ze = M2.evenG opsN X := ⟨_, rfl⟩
 obtain ⟨Zo, hZo⟩ : ∃ Zo, Zo = M2.oddG opsN X := ⟨_, rfl⟩
 rw [← hZe] at lE
 rw [← hZo] at lO
 rw [← hZe, ← hZo]
 have HZ := Ho.mk (And.intro hZe hZo)
 have LE := Ho.mk lE
 have LO := Ho.mk lO
 have hm64 : m ≤ 64 := by omega
 have HN := Ho.mk hn
 clear T hok hz hx hZe hZo lE lO hn
 go_enter Tryz.func40, Tryz.ntmps40
 go_wp2_with fail
 have hS0 : (w.alloc (.cells #[.slice none 0 0, .slice none 0 0] 24)).heap.size = w.heap.size + 1 := World.size_alloc _ _
 generalize w.alloc (.cells #[.slice none 0 0, .slice none 0 0] 24) = w0 at *
 (with_reducible refine C0.out.mono ?_); rintro e w1 ⟨rfl, rfl⟩
 have C1 := dEven w0 (HX.out.bel B0.out) (by omega)
 rw [← HZ.out.1] at C1
 have C1 := Ho.mk C1
 clear C0
 go_wp2_with fail
 (with_reducible refine C1.out.mono ?_); rintro e w1 ⟨A1, c1, rfl, g1, b1⟩
 rw [LE.out] at g1 ⊢
 have C2 := dOdd w1 ((HX.out.bel B0.out).bel b1) (by omega)
 rw [← HZ.out.2] at C2
 have C2 := Ho.mk C2
 have G1 := Ho.mk g1
 have B1 := Ho.mk b1
 clear C1 g1 b1
 go_wp2_with fail
 (with_reducible refine C2.out.mono ?_); rintro e w2 ⟨A2, c2, rfl, g2, b2⟩
 rw [LO.out] at g2 ⊢
 obtain ⟨gO, c2', e2, _⟩ := g2.1.form (by rw [LO.out]; exact hm)
 rw [LO.out] at e2
 cases e2
 have gO1 := g2.2 gO rfl
 have gO2 := g2.1.lt (g := gO) rfl
 obtain ⟨rx, yx, lx, cx⟩ := g2.1.fz.at_ (i := 0) (by rw [LO.out]; exact hm)
 have O1 := Ho.mk (G1.out.1.bel b2)
 have O2 := Ho.mk g2.1
 have BK1 := Ho.mk (fun g (hg : (Value.slice A1 m c1).ownBlock = some g) => And.intro (G1.out.2 g hg) (G1.out.1.lt hg))
 have RX := Ho.mk (And.intro lx cx)
 have B2 := Ho.mk (B1.out.trans b2)
 have KR := Ho.mk (KR.out.bel B2.out)
 have hS2 := B2.out.size
 have hS1 := B1.out.size
 clear C2 g2 b2 lx cx G1
 go_upto_region 4 with fail
 have hm0 : 0 < m := hm
 have z9 := (Blk.new w2 [.float .f64 rx] 50).cell (i := 0) rfl
 have hsA : (w2.alloc (.cells #[.float .f64 rx] 50)).heap.size = w2.heap.size + 1 := World.size_alloc _ _
 have BA := Ho.mk ((Bel.refl w2).alloc (.cells #[.float .f64 rx] 50))
 have OA := Ho.mk (O1.out.bel BA.out)
 have hlE : Ze.length ≤ 100000 := by rw [LE.out]; omega
 obtain ⟨Z1, hZ1⟩ : ∃ Z1, Z1 = Ze ++ [cn rx] := ⟨_, rfl⟩
 have HZ1 := Ho.mk hZ1
 have L1 := Ho.mk (show Z1.length = m + 1 by rw [hZ1, List.length_append, LE.out]; rfl)
 clear hZ1
 go_upto_region 5 with (at_builtin; refine wpList_appA rfl _ _ rfl OA.out rfl rfl z9 RX.out.1 hlE HZ1.out ?_; intro tA tc w3 ho ha; rw [L1.out] at ho ha ⊢; have HO1 := Ho.mk ho; have HA1 := Ho.mk ha; have n1 : (Value.slice A1 m c1).ownBlock ≠ some gO := fun e => (by have := (BK1.out gO e).2; omega); have O3 := Ho.mk (HA1.out.og (O2.out.bel BA.out) (fun g hg => by cases hg; exact n1)); obtain ⟨_, y3, _, _⟩ := O3.out.fz.at_ (i := 0) (by rw [LO.out]; exact hm); have x3 := O3.out.fz.free 0; clear z9 ho ha yx)
 have KR3 := Ho.mk (HA1.out.blk (KR.out.bel BA.out) (fun e => by have := (BK1.out _ e).1; omega))
 have B3 := Ho.mk (HA1.out.bel ((B0.out.trans B2.out).trans BA.out) (fun g hg => by have := (BK1.out g hg).1; omega))
 have BK3 := Ho.mk (fun g (hg : (Value.slice tA (m + 1) tc).ownBlock = some g) => show w0.heap.size ≤ g ∧ g ≠ gO from by
  rcases HA1.out.own with q | q
  ·rw [q] at hg
   exact ⟨(BK1.out g hg).1, fun e => n1 (by rw [hg, e])⟩
  ·rw [q] at hg
   cases hg
   exact ⟨by omega, by omega⟩)
 have hS3 := B3.out.size
 have hS4 := HA1.out.size
 have O4 := Ho.mk (O3.out.setF 0 (r := 0) (x := 0) (by decide) cn_zero)
 have O5 := Ho.mk (HO1.out.far (p := ⟨gO, 0, none⟩) (fun e => (BK3.out gO e).2 rfl) (.float .f64 0))
 have KR4 := Ho.mk (KR3.out.far (p := ⟨gO, 0, none⟩) (by dsimp only; omega) (.float .f64 0))
 have B4 := Ho.mk (show Bel w (w3.setCell ⟨gO, 0, none⟩ (.float .f64 0)) from ⟨B3.out.out.setCell (p := ⟨gO, 0, none⟩) (by dsimp only; omega) _⟩)
 have hS5 : w3.heap.size = (w3.setCell ⟨gO, 0, none⟩ (.float .f64 0)).heap.size := by simp [World.setCell]
 clear y3 x3 KR3 B3 O3 HO1 OA O1 O2 KR
 generalize w3.setCell ⟨gO, 0, none⟩ (.float .f64 0) = w4 at *
 have nO : gO ≠ w.heap.size := by omega
 have z9 := (Blk.new w4 [.float .f64 0] 50).cell (i := 0) rfl
 have BA4 := Ho.mk ((Bel.refl w4).alloc (.cells #[.float .f64 0] 50))
 have hsA4 : (w4.alloc (.cells #[.float .f64 0] 50)).heap.size = w4.heap.size + 1 := World.size_alloc _ _
 have OA := Ho.mk (O4.out.bel BA4.out)
 have hlO : (Zo.set 0 0).length ≤ 100000 := by rw [List.length_set, LO.out]; omega
 obtain ⟨Z2, hZ2⟩ : ∃ Z2, Z2 = Zo.set 0 0 ++ [cn 0] := ⟨_, rfl⟩
 have HZ2 := Ho.mk hZ2
 have L2 := Ho.mk (show Z2.length = m + 1 by rw [hZ2, List.length_append, List.length_set, LO.out]; rfl)
 clear hZ2
 go_wp2_with (at_builtin; refine wpList_appA rfl _ _ rfl OA.out rfl rfl z9 (by decide) hlO HZ2.out ?_; intro sA sc w5 ho ha; rw [L2.out] at ho ha ⊢; have HO2 := Ho.mk ho; have HA2 := Ho.mk ha; have KR5 := Ho.mk (HA2.out.blk (KR4.out.bel BA4.out) (fun e => nO (Option.some.inj e))); have y0 := KR5.out.cell (i := 0) rfl; have y1 := KR5.out.cell (i := 1) rfl; have x0 := KR5.out.free 0; have x1 := KR5.out.free 1; clear z9 ho ha)
 have O6 := HA2.out.og (O5.out.bel BA4.out) (fun g hg e => by cases e; exact (BK3.out _ hg).2 rfl)
 have gw : w.heap.size ≤ gO := by omega
 have B5 := HA2.out.bel (B4.out.trans BA4.out) (fun g hg => by cases hg; exact gw)
 have KF := (KR5.out.set 0 (.slice tA (m + 1) tc)).set 1 (.slice sA (m + 1) sc)
 have own2 : ∀ g, (Value.slice sA (m + 1) sc).ownBlock = some g → w.heap.size + 1 ≤ g ∧ g ≠ w.heap.size ∧ ((Value.slice tA (m + 1) tc).ownBlock ≠ some g) := fun g hg => by
  rcases HA2.out.own with q | q
  ·rw [q] at hg; cases hg
   exact ⟨show w.heap.size + 1 ≤ gO by omega, show gO ≠ w.heap.size by omega, fun e => (BK3.out _ e).2 rfl⟩
  ·rw [q] at hg; cases hg
   have l4 := B4.out.size
   have lo := fun g hg => O5.out.lt (g := g) hg
   exact ⟨by omega, by omega, fun e => by have := lo _ e; omega⟩
 have own1 : ∀ g, (Value.slice tA (m + 1) tc).ownBlock = some g → w.heap.size + 1 ≤ g := fun g hg => by have := (BK3.out g hg).1; omega
 have q1 := (O6.far (p := ⟨w.heap.size, 0, none⟩) (fun e => by have := own1 _ e; dsimp only at this; omega) (.slice tA (m + 1) tc)).far (p := ⟨w.heap.size, 1, none⟩) (fun e => by have := own1 _ e; dsimp only at this; omega) (.slice sA (m + 1) sc)
 have q2 := (HO2.out.far (p := ⟨w.heap.size, 0, none⟩) (fun e => by have := (own2 _ e).1; dsimp only at this; omega) (.slice tA (m + 1) tc)).far (p := ⟨w.heap.size, 1, none⟩) (fun e => by have := (own2 _ e).1; dsimp only at this; omega) (.slice sA (m + 1) sc)
 have BF : Bel w ((w5.setCell ⟨w.heap.size, 0, none⟩ (.slice tA (m + 1) tc)).setCell ⟨w.heap.size, 1, none⟩ (.slice sA (m + 1) sc)) := ⟨(B5.out.setCell (p := ⟨w.heap.size, 0, none⟩) (Nat.le_refl _) _).setCell (p := ⟨w.heap.size, 1, none⟩) (Nat.le_refl _) _⟩
 have eZ1 : Ze ++ [nthN Zo 0] = Z1 := by rw [HZ1.out, RX.out.2]
 have eZ2 : Zo.set 0 0 ++ [0] = Z2 := by rw [HZ2.out, cn_zero]
 rw [eZ1, eZ2]
 refine bodyPost_ret (resVB (fn := Tryz.f40) rfl rfl rfl KF) rfl ⟨tA, tc, sA, sc, by rw [L1.out, L2.out], ?_, BF⟩
 rw [L1.out, L2.out]
 refine ⟨q1.rowF fun g hg => by have := own1 g hg; omega, q2.rowF fun g hg => by have := (own2 g hg).1; omega, ?_⟩
 intro b b' o o' n n' d d' e1 e2 _ _ hbb
 have h2 := own2 b' (by rw [e2]; rfl)
 exact h2.2.2 (by rw [e1]; show some b = some b'; rw [hbb])
theorem dBins {A : Option Addr} {c : Nat} {X : List Nat} (w : World) (T : Tab w) (hx : In w (.slice A X.length c) X) (hl : X.length ≤ 128) :
  Calls Tryz.prog 40 #[.slice A X.length c] w (MakesVB w (binsRe X) (binsIm X) (okR X.length)) := by
 unfold binsRe binsIm
 cases hb : okR X.length with
 | true =>
  obtain ⟨h1, h2, _⟩ := okR_pow hb
  have := two_half h2
  exact dBinsOk (m := 2 ^ (Nat.log2 X.length - 1)) w T hx (by rw [← this]; exact h1) (Nat.two_pow_pos _) hl hb
 | false => exact dBinsBad w T hl hb
end Y7
namespace Pj
open Ieee Go Go.RowKit Go.Proofs Go.Proofs.YtnbdoidccacdnaaGreatDoor Ow Dt Gp I0 U0 W0 S4 S6 P0 M0 M1 M2 M3 P4 P5 P6 P8 W4 W5 W1 W2 Pc Pe Pg
attribute [local go_sem ↓] Go.wp_at_zero Go.wp_at_succ
theorem Two.grow {w : World} {B c c' : Nat} {A A' : Option Addr} {X Y : List Nat} (h1 : RowF w B (.slice A X.length c) X) (h2 : RowF w B (.slice A' Y.length c') Y) (ne : ∀ b b' o o' n n' d d', (Value.slice A X.length c) = .slice (some ⟨b, o, none⟩) n d → (Value.slice A' Y.length c') = .slice (some ⟨b', o', none⟩) n' d' → 0 < X.length → 0 < Y.length → b ≠ b') :
  Two w B (.slice A X.length c) (.slice A' Y.length c') X Y := ⟨h1, h2, ne⟩
end Pj
namespace Pk
open Ieee Go Go.RowKit Go.Proofs Go.Proofs.YtnbdoidccacdnaaGreatDoor Ow Dt Gp I0 U0 W0 S4 S6 P0 M0 M1 M2 M3 P4 P5 P6 P8 W4 W5 W1 W2 Pc Pe Pg G1 G3 Pj
attribute [local go_sem ↓] Go.wp_at_zero Go.wp_at_succ
theorem take_succ_eq {X Y : List Nat} {i : Nat} (h : X.take i = Y.take i) (hx : i < X.length) (hy : i < Y.length) (e : nthN X i = nthN Y i) : X.take (i + 1) = Y.take (i + 1) := by
 rw [List.take_add_one, List.take_add_one, h, List.getElem?_eq_getElem hx, List.getElem?_eq_getElem hy]
 rw [nthN_lt hx, nthN_lt hy] at e
 rw [e]
theorem nth_ne {X Y : List Nat} {i : Nat} (h : nthN X i ≠ nthN Y i) : X ≠ Y := fun e => h (by rw [e])
theorem dSameRow {A B : Option Addr} {n m c c' : Nat} {X Y : List Nat} (W0 : World) (hx : Fr W0 A X) (hy : Fr W0 B Y) (hn : X.length = n) (hm : Y.length = m) (hl : n ≤ 100000) (hl' : m ≤ 100000) :
  Calls Tryz.prog 44 #[.slice A n c, .slice B m c'] W0 (fun e w' => e = .returned (.bool (decide (X = Y))) ∧ Bel W0 w') := by
 have FX := Ho.mk hx
 have FY := Ho.mk hy
 have HN := Ho.mk hn
 have HM := Ho.mk hm
 clear hx hy hn hm
 by_cases hnm : n = m
 ·subst hnm
  go_enter Tryz.func44, Tryz.ntmps44
  go_wp2_with fail
  go_loopw [5] (fun v wr => ∃ (i : Nat), i ≤ n ∧ v = .int .i64 i ∧ Ho (X.take i = Y.take i) ∧ Ho (Bel W0 wr)) (fun v _ => n - (intOf v).toNat)
  case atStart => exact ⟨0, Nat.zero_le _, rfl, ⟨by simp⟩, ⟨Bel.refl _⟩⟩
  case round =>
   obtain ⟨i, hi, rfl, HT, HW⟩ := hrel
   rcases Nat.lt_or_ge i n with hlt | hge
   ·obtain ⟨a1, r1, rfl, y1, l1, c1⟩ := FX.out.at_ (i := i) (by rw [HN.out]; exact hlt)
    obtain ⟨a2, r2, rfl, y2, l2, c2⟩ := FY.out.at_ (i := i) (by rw [HM.out]; exact hlt)
    have y1 := HW.out.cell y1
    have y2 := HW.out.cell y2
    have HC := Ho.mk (And.intro c1 c2)
    have HAL := Ho.mk (alike_cn l1 l2)
    clear c1 c2 l1 l2
    by_cases hc : cn r1 = cn r2
    ·have RS : Ho (∀ w, Calls Tryz.prog 93 #[.float .f64 r1, .float .f64 r2] w (Quiet w (.bool true))) := ⟨fun w => by have h := rsame_calls r1 r2 w; rw [HAL.out, decide_eq_true hc] at h; exact h⟩
     have HCC := Ho.mk hc
     clear hc
     go_upto_region 6 with fail
     refine wp_region_held_drew (S := fun w' => Bel wr w') (by kernel_rfl) (Bel.refl _).drew (fun hHeld => ?_)
     (try dsimp only at hHeld)
     generalize wr.drew = wd at *
     refine rt (i := 0) hHeld ?_
     refine rt (i := 1) hHeld ?_
     refine rt (i := 2) hHeld ?_
     refine rl (i := 3) (v := ?_) hHeld (fun w hSw => ?_) ?_
     rotate_left
     ·(have z0 := hSw.cell y1; have z1 := hSw.cell y2; go_simp; try (with_reducible rfl))
     refine rt (i := 4) hHeld ?_
     refine rt (i := 5) hHeld ?_
     refine rt (i := 6) hHeld ?_
     refine rl (i := 7) (v := ?_) hHeld (fun w hSw => ?_) ?_
     rotate_left
     ·(have z0 := hSw.cell y1; have z1 := hSw.cell y2; go_simp; try (with_reducible rfl))
     try simp only [Act.put, List.setIfInBounds_toArray, List.set_cons_zero, List.set_cons_succ]
     refine rc (i := 8) (fun K hK => ?_)
     go_simp
     go_at_call 93
     (with_reducible refine (RS.out _).mono ?_); rintro e v1 ⟨rfl, hz⟩
     have bv1 : Bel wd v1 := by rw [hz]; exact Bel.refl _
     clear hz
     try go_wp2_with fail
     refine hK.out _ _ (Bel.trans hHeld bv1) (fun hHeld => ?_)
     clear hK K
     clear bv1
     refine rt (i := 9) hHeld ?_
     try simp only [Act.put, List.setIfInBounds_toArray, List.set_cons_zero, List.set_cons_succ]
     refine wpAnyH_done (by kernel_rfl) ?_ _
     have HB := Ho.mk (HW.out.trans hHeld)
     clear hHeld
     go_wp2
     go_roundw
     case rel =>
      exact ⟨i + 1, by omega, by simp, ⟨take_succ_eq HT.out (by rw [HN.out]; exact hlt) (by rw [HM.out]; exact hlt) (by rw [← HC.out.1, ← HC.out.2]; exact HCC.out)⟩, HB⟩
     case measure => simp [intOf]; omega
    ·have RS : Ho (∀ w, Calls Tryz.prog 93 #[.float .f64 r1, .float .f64 r2] w (Quiet w (.bool false))) := ⟨fun w => by have h := rsame_calls r1 r2 w; rw [HAL.out, decide_eq_false hc] at h; exact h⟩
     have HCC := Ho.mk hc
     clear hc
     go_upto_region 6 with fail
     refine wp_region_held_drew (S := fun w' => Bel wr w') (by kernel_rfl) (Bel.refl _).drew (fun hHeld => ?_)
     (try dsimp only at hHeld)
     generalize wr.drew = wd at *
     refine rt (i := 0) hHeld ?_
     refine rt (i := 1) hHeld ?_
     refine rt (i := 2) hHeld ?_
     refine rl (i := 3) (v := ?_) hHeld (fun w hSw => ?_) ?_
     rotate_left
     ·(have z0 := hSw.cell y1; have z1 := hSw.cell y2; go_simp; try (with_reducible rfl))
     refine rt (i := 4) hHeld ?_
     refine rt (i := 5) hHeld ?_
     refine rt (i := 6) hHeld ?_
     refine rl (i := 7) (v := ?_) hHeld (fun w hSw => ?_) ?_
     rotate_left
     ·(have z0 := hSw.cell y1; have z1 := hSw.cell y2; go_simp; try (with_reducible rfl))
     try simp only [Act.put, List.setIfInBounds_toArray, List.set_cons_zero, List.set_cons_succ]
     refine rc (i := 8) (fun K hK => ?_)
     go_simp
     go_at_call 93
     (with_reducible refine (RS.out _).mono ?_); rintro e v1 ⟨rfl, hz⟩
     have bv1 : Bel wd v1 := by rw [hz]; exact Bel.refl _
     clear hz
     try go_wp2_with fail
     refine hK.out _ _ (Bel.trans hHeld bv1) (fun hHeld => ?_)
     clear hK K
     clear bv1
     refine rt (i := 9) hHeld ?_
     try simp only [Act.put, List.setIfInBounds_toArray, List.set_cons_zero, List.set_cons_succ]
     refine wpAnyH_done (by kernel_rfl) ?_ _
     have HB := Ho.mk (HW.out.trans hHeld)
     clear hHeld
     go_wp2
     go_ret
     exact ⟨by rw [decide_eq_false (nth_ne (i := i) (by rw [← HC.out.1, ← HC.out.2]; exact HCC.out))]; rfl, HB.out⟩
   ·obtain rfl : i = n := by omega
    go_wp2
    go_ret
    refine ⟨?_, HW.out⟩
    have := HT.out
    rw [List.take_of_length_le (by rw [HN.out]; exact Nat.le_refl _), List.take_of_length_le (by rw [HM.out]; exact Nat.le_refl _)] at this
    rw [decide_eq_true this]; rfl
 ·have hne : ¬ (n : Int) = (m : Int) := by omega
  go_enter Tryz.func44, Tryz.ntmps44
  go_wp2
  all_goals first
   | (exfalso; omega)
   | (go_ret; exact ⟨by rw [decide_eq_false (fun e => hnm (by rw [← HN.out, ← HM.out, e]))]; rfl, Bel.refl _⟩)
theorem dSameRowI {u v : Value} {X Y : List Nat} (w : World) (hx : In w u X) (hy : In w v Y) (hl : X.length ≤ 100000) (hl' : Y.length ≤ 100000) :
  Calls Tryz.prog 44 #[u, v] w (fun e w' => e = .returned (.bool (decide (X = Y))) ∧ Bel w w') := by
 obtain ⟨A, c, rfl, _, _, h1, _⟩ := hx.out
 obtain ⟨B, d, rfl, _, _, h2, _⟩ := hy.out
 exact dSameRow w h1 h2 rfl rfl hl hl'
theorem dSame {A1 B1 A2 B2 : Option Addr} {c1 d1 c2 d2 : Nat} {X1 Y1 X2 Y2 : List Nat} (w : World) (hx : In w (.slice A1 X1.length c1) X1) (hy : In w (.slice B1 Y1.length d1) Y1) (hx2 : In w (.slice A2 X2.length c2) X2) (hy2 : In w (.slice B2 Y2.length d2) Y2)
  (l1 : X1.length ≤ 100000) (l2 : Y1.length ≤ 100000) (l3 : X2.length ≤ 100000) (l4 : Y2.length ≤ 100000) :
  Calls Tryz.prog 21 #[.agg #[.slice A1 X1.length c1, .slice B1 Y1.length d1], .agg #[.slice A2 X2.length c2, .slice B2 Y2.length d2]] w (fun e w' => e = .returned (.bool (decide (X1 = X2 ∧ Y1 = Y2))) ∧ Bel w w') := by
 have S1 := Ho.mk (fun w' (g : Bel w w') => dSameRowI w' (hx.bel g) (hx2.bel g) l1 l3)
 have S2 := Ho.mk (fun w' (g : Bel w w') => dSameRowI w' (hy.bel g) (hy2.bel g) l2 l4)
 have KV := Ho.mk ((Blk.new w [.slice A1 X1.length c1, .slice B1 Y1.length d1] 24).old (.cells #[.slice A2 X2.length c2, .slice B2 Y2.length d2] 24))
 have KU := Ho.mk (Blk.new (w.alloc (.cells #[.slice A1 X1.length c1, .slice B1 Y1.length d1] 24)) [.slice A2 X2.length c2, .slice B2 Y2.length d2] 24)
 have g0 := Ho.mk (((Bel.refl w).alloc (.cells #[.slice A1 X1.length c1, .slice B1 Y1.length d1] 24)).alloc (.cells #[.slice A2 X2.length c2, .slice B2 Y2.length d2] 24))
 rw [World.size_alloc] at KU
 clear hx hy hx2 hy2
 go_enter Tryz.func21, Tryz.ntmps21
 go_upto_region 1 with fail
 generalize (w.alloc (.cells #[.slice A1 X1.length c1, .slice B1 Y1.length d1] 24)).alloc (.cells #[.slice A2 X2.length c2, .slice B2 Y2.length d2] 24) = W at *
 have y0 := KV.out.cell (i := 0) rfl
 have y1 := KV.out.cell (i := 1) rfl
 have y2 := KU.out.cell (i := 0) rfl
 have y3 := KU.out.cell (i := 1) rfl
 by_cases e1 : X1 = X2
 ·have d1' : decide (X1 = X2 ∧ Y1 = Y2) = decide (Y1 = Y2) := by simp [e1]
  have d2' : decide (X1 = X2) = true := decide_eq_true e1
  have D1 := Ho.mk d1'
  rw [d2'] at S1
  clear d1' d2' e1
  go_wp2_with (first | (go_at_call 44; first | ((with_reducible refine (S1.out _ g0.out).mono ?_); rintro e w1 ⟨rfl, b1⟩; have y0 := b1.cell y0; have y1 := b1.cell y1; have y2 := b1.cell y2; have y3 := b1.cell y3) | ((with_reducible refine (S2.out _ (g0.out.trans b1)).mono ?_); rintro e w2 ⟨rfl, b2⟩)) | fail)
  go_ret
  exact ⟨by rw [D1.out]; rfl, (g0.out.trans b1).trans b2⟩
 ·have d1' : decide (X1 = X2 ∧ Y1 = Y2) = false := by simp [e1]
  have d2' : decide (X1 = X2) = false := decide_eq_false e1
  have D1 := Ho.mk d1'
  rw [d2'] at S1
  clear d1' d2' e1
  go_wp2_with (go_at_call 44; (with_reducible refine (S1.out _ g0.out).mono ?_); rintro e w1 ⟨rfl, b1⟩)
  go_ret
  exact ⟨by rw [D1.out]; rfl, g0.out.trans b1⟩
end Pk
namespace Pq
open Ieee Go Go.RowKit Go.Proofs Go.Proofs.YtnbdoidccacdnaaGreatDoor Ow Gp Gq Gr G1 G3 I0 W0 W1 W2 P0 Po
attribute [local go_sem ↓] Go.wp_at_zero Go.wp_at_succ
theorem ord_c {r c : Nat} {v : Int} (h : r < 2 * sgnW) (hc : c < 2 * sgnW) (fc : frung c ≤ infR) (hv : V c = v) (hs : (FloatKind.f64.format.order r c).isSome = true) : frung r ≤ infR ∧ FloatKind.f64.format.order r c = some (compare (V r) v) := by
 by_cases q : infR < frung r
 ·rw [ord_no h hc (.inl q)] at hs; cases hs
 ·rw [← hv]; exact ⟨by omega, ord h hc (by omega) fc⟩
theorem ge_c {r c : Nat} {v : Int} (h : r < 2 * sgnW) (hc : c < 2 * sgnW) (fc : frung c ≤ infR) (hv : V c = v) (e : (FloatKind.f64.format.order r c == some .gt || FloatKind.f64.format.order r c == some .eq) = true) : frung r ≤ infR ∧ v ≤ V r := by
 obtain ⟨a, b⟩ := ord_c h hc fc hv (by cases q : FloatKind.f64.format.order r c <;> simp_all)
 refine ⟨a, ?_⟩
 rw [b, cmp_int] at e
 split at e
 ·simp at e
 ·omega
theorem le_c {r c : Nat} {v : Int} (h : r < 2 * sgnW) (hc : c < 2 * sgnW) (fc : frung c ≤ infR) (hv : V c = v) (e : (FloatKind.f64.format.order r c == some .lt || FloatKind.f64.format.order r c == some .eq) = true) : frung r ≤ infR ∧ V r ≤ v := by
 obtain ⟨a, b⟩ := ord_c h hc fc hv (by cases q : FloatKind.f64.format.order r c <;> simp_all)
 refine ⟨a, ?_⟩
 rw [b, cmp_int] at e
 split at e
 ·omega
 ·split at e
  ·omega
  ·simp at e
end Pq
namespace Y8
open Ieee Go Go.RowKit Go.Proofs Go.Proofs.YtnbdoidccacdnaaGreatDoor Ow Dt Gp I0 U0 W0 S4 S6 P0 M0 M1 M3 W4 W5 V2 P4 Y3 Yh Y4 Y1 P8 Pc Y5 Y6 Y7
open Go.Proofs.YtnbdoidccacdnaaGreatDoor.V1 (NI St ni_same ni_loop St.refl St.of_bel blk_keep ni_blk put_st)
open Go.Proofs.YtnbdoidccacdnaaGreatDoor.C6 (leaveAny)
open Go.Proofs.YtnbdoidccacdnaaGreatDoor.Pg (In)
attribute [local go_sem ↓] Go.wp_at_zero Go.wp_at_succ
theorem eq0 {r : Nat} (h : r < 2 * sgnW) : (FloatKind.f64.format.order r 0 == some .eq) = decide (cn r = 0) := by
 have h1 := alike_cn h (show 0 < 2 * sgnW by decide)
 rw [cn_zero] at h1
 unfold G3.alike at h1
 have h2 : (FloatKind.f64.format.order 0 0 != some .eq) = false := by decide +kernel
 rw [h2, Bool.and_false, Bool.or_false] at h1
 exact h1
theorem gr_cell {b : Nat} {w w' : World} (g : Gr b w w') {p : Addr} {v : Value} (hc : w.cell? p = some v) (hn : p.block ≠ b) : w'.cell? p = some v := by
 have hlt := World.block_lt_of_cell? w p hc
 unfold World.cell? at hc ⊢
 rw [g.block p.block hlt hn]; exact hc
def logZ (k : Int) : Int := if k < 0 then -1 else logI k.toNat
theorem dLogN {k : Int} (w : World) (h : -1000 ≤ k ∧ k < 1100) (T : Tab w) : Calls Tryz.prog 77 #[.int .i64 k] w fun e w' => e = .returned (.int .i64 (logZ k)) ∧ w = w' := by
 by_cases hk : k < 0
 ·rw [show logZ k = -1 by unfold logZ; rw [if_pos hk]]
  have hk1 : k < 1 := by omega
  clear T
  go_enter Tryz.func77, Tryz.ntmps77
  go_wp2
  go_ret
  exact ⟨rfl, rfl⟩
 ·have := dLogR (n := k.toNat) rfl w (by omega) T
  rw [show ((k.toNat : Nat) : Int) = k by omega] at this
  rw [show logZ k = logI k.toNat by unfold logZ; rw [if_neg hk]]
  exact this
def packRow (X Y : List Nat) (m : Nat) (i : Nat) : Nat := if i = 0 then nthN X 0 else if i = 1 then nthN X m else if i % 2 = 0 then nthN X (i / 2) else nthN Y (i / 2)
def packN (X Y : List Nat) : List Nat := (List.range (2 * (X.length - 1))).map (packRow X Y (X.length - 1))
def okK (X Y : List Nat) : Bool := decide (X.length = Y.length ∧ X.length ≠ 0 ∧ 0 ≤ logI (X.length - 1) ∧ nthN Y 0 = 0 ∧ nthN Y (X.length - 1) = 0)
def pkR (X Y : List Nat) : List Nat := if okK X Y then packN X Y else []
def MakesRB (w : World) (Z : List Nat) (z : Bool) (e : Ending) (w' : World) : Prop := ∃ A c, e = .returned (.tuple #[.slice A Z.length c, .bool z]) ∧ RowF w' w.heap.size (.slice A Z.length c) Z ∧ Bel w w'
theorem packBad1 {A B : Option Addr} {c d n n' : Nat} (w : World) (hl : n ≤ 128) (hl' : n' ≤ 128) (hne : n ≠ n') : Calls Tryz.prog 42 #[.agg #[.slice A n c, .slice B n' d]] w (MakesRB w [] false) := by
 have H := Ho.mk ((Hp.nil (Bel.refl w)).box [.slice A n c, .slice B n' d] 24)
 go_enter Tryz.func42, Tryz.ntmps42
 go_upto_region 1 with fail
 generalize w.alloc (.cells #[.slice A n c, .slice B n' d] 24) = w0 at *
 have y0 := (H.out.blk 0 rfl).cell (i := 0) rfl
 have y1 := (H.out.blk 0 rfl).cell (i := 1) rfl
 have ne : ¬ (n' : Int) = (n : Int) - 1 + 1 := by omega
 have ne2 : ¬ n' = n := fun e => hne e.symm
 go_wp2
 go_ret2
 exact ⟨none, 0, rfl, RowF.nil _ _ _ _ (by decide), H.out.bel⟩
theorem packBad2 {A B : Option Addr} {c d n : Nat} {X Y : List Nat} (w : World) (T : Tab w) (hx : In w (.slice A n c) X) (hy : In w (.slice B n d) Y) (hX : X.length = n) (hY : Y.length = n) (hl : n ≤ 128) (h0 : n = 0 ∨ logI (n - 1) < 0) : Calls Tryz.prog 42 #[.agg #[.slice A n c, .slice B n d]] w (MakesRB w [] false) := by
 have H := Ho.mk ((Hp.nil (Bel.refl w)).box [.slice A n c, .slice B n d] 24)
 have TT := Ho.mk (T.bel H.out.bel)
 have HX := Ho.mk (hx.bel H.out.bel)
 have HY := Ho.mk (hy.bel H.out.bel)
 have HXL := Ho.mk hX
 have HYL := Ho.mk hY
 clear T hx hy hX hY
 have LG := Ho.mk (dLogN (k := (n : Int) - 1) (w.alloc (.cells #[.slice A n c, .slice B n d] 24)) (by omega) TT.out)
 obtain ⟨z, hz⟩ : ∃ z, z = logZ ((n : Int) - 1) := ⟨_, rfl⟩
 have hz0 : z < 0 := by
  rw [hz]; unfold logZ
  rcases h0 with h0 | h0
  ·rw [if_pos (by omega)]; decide
  ·split
   ·decide
   ·rw [show ((n : Int) - 1).toNat = n - 1 by omega]; exact h0
 rw [← hz] at LG
 clear hz h0
 go_enter Tryz.func42, Tryz.ntmps42
 go_upto_region 1 with fail
 generalize w.alloc (.cells #[.slice A n c, .slice B n d] 24) = w0 at *
 have y0 := (H.out.blk 0 rfl).cell (i := 0) rfl
 have y1 := (H.out.blk 0 rfl).cell (i := 1) rfl
 go_wp2_with fail
 (with_reducible refine LG.out.mono ?_); rintro e w1 ⟨rfl, rfl⟩
 go_wp2
 go_ret2
 exact ⟨none, 0, rfl, RowF.nil _ _ _ _ (by decide), H.out.bel⟩
theorem in_at {w : World} {ad : Addr} {n c i : Nat} {X : List Nat} (h : In w (.slice (some ad) n c) X) (hi : i < X.length) : ∃ r, w.cell? (ad.add i) = some (.float .f64 r) ∧ r < 2 * sgnW ∧ cn r = nthN X i := by
 obtain ⟨A1, c1, e, _, _, k, _⟩ := h.out
 cases e
 obtain ⟨ad', v, e, hc, r, rfl, h1, h2⟩ := k.cell i hi
 cases e
 exact ⟨r, hc, h1, h2⟩
theorem in_some {w : World} {A : Option Addr} {n c : Nat} {X : List Nat} (h : In w (.slice A n c) X) (hp : 0 < X.length) : ∃ ad, A = some ad := by
 obtain ⟨A1, c1, e, _, _, k, _⟩ := h.out
 obtain ⟨ad, _, e2, _⟩ := k.cell 0 hp
 simp only [Value.slice.injEq] at e
 exact ⟨ad, e.1.trans e2⟩
theorem ne_no {r : Nat} (h : (FloatKind.f64.format.order r 0 == some .eq) = true) : (FloatKind.f64.format.order r 0 != some .eq) = false := by simp [bne, h]
theorem ne_yes {r : Nat} (h : (FloatKind.f64.format.order r 0 == some .eq) = false) : (FloatKind.f64.format.order r 0 != some .eq) = true := by simp [bne, h]
theorem in_lt {w : World} {ad : Addr} {n c : Nat} {X : List Nat} (h : In w (.slice (some ad) n c) X) (hi : 0 < X.length) : ad.block < w.heap.size := by
 obtain ⟨r, h1, _⟩ := in_at h hi
 have := World.block_lt_of_cell? w _ h1
 rwa [add_block] at this
theorem add_zero' (ad : Addr) : ad.add 0 = ad := by simp [Addr.add]
theorem packBad3 {A B : Option Addr} {c d m : Nat} {X Y : List Nat} (w : World) (T : Tab w) (hx : In w (.slice A (m + 1) c) X) (hy : In w (.slice B (m + 1) d) Y) (hX : X.length = m + 1) (hY : Y.length = m + 1) (hl : m + 1 ≤ 128) (hlog : 0 ≤ logI m) (h0 : nthN Y 0 ≠ 0) : Calls Tryz.prog 42 #[.agg #[.slice A (m + 1) c, .slice B (m + 1) d]] w (MakesRB w [] false) := by
 have H := Ho.mk ((Hp.nil (Bel.refl w)).box [.slice A (m + 1) c, .slice B (m + 1) d] 24)
 have TT := Ho.mk (T.bel H.out.bel)
 have HX := Ho.mk (hx.bel H.out.bel)
 have HY := Ho.mk (hy.bel H.out.bel)
 have HXL := Ho.mk hX
 have HYL := Ho.mk hY
 have LG := Ho.mk (dLogN (k := (m : Int)) (w.alloc (.cells #[.slice A (m + 1) c, .slice B (m + 1) d] 24)) (by omega) TT.out)
 obtain ⟨z, hz⟩ : ∃ z, z = logZ (m : Int) := ⟨_, rfl⟩
 have hz0 : 0 ≤ z := by rw [hz]; unfold logZ; rw [if_neg (by omega), Int.toNat_natCast]; exact hlog
 have hz1 : z ≠ 10 := by
  rw [hz]; unfold logZ; rw [if_neg (by omega), Int.toNat_natCast]
  unfold logI
  split
  ·rename_i q
   intro e
   have : Nat.log2 m = 10 := by omega
   rw [this] at q
   omega
  ·decide
 rw [← hz] at LG
 have hz3 : decide (z < 0) = false := decide_eq_false (by omega)
 have hz4 : (z == 10) = false := by simp [hz1]
 obtain ⟨adX, hA⟩ := in_some hx (by omega)
 obtain ⟨adY, hB⟩ := in_some hy (by omega)
 subst hA; subst hB
 clear T hx hy hX hY hz hlog
 go_enter Tryz.func42, Tryz.ntmps42
 go_upto_region 1 with fail
 generalize w.alloc (.cells #[.slice (some adX) (m + 1) c, .slice (some adY) (m + 1) d] 24) = w0 at *
 have y0 := (H.out.blk 0 rfl).cell (i := 0) rfl
 have y1 := (H.out.blk 0 rfl).cell (i := 1) rfl
 have m0 : 0 < m + 1 := Nat.succ_pos m
 obtain ⟨r0, yr0, lr0, cr0⟩ := in_at HY.out (i := 0) (by have := HYL.out; omega)
 have yq0 := yr0
 rw [add_zero'] at yq0
 have e0 : (FloatKind.f64.format.order r0 0 == some .eq) = false := by rw [eq0 lr0, cr0]; exact decide_eq_false h0
 replace e0 := ne_yes e0
 clear cr0 lr0
 go_wp2_with fail
 (with_reducible refine LG.out.mono ?_); rintro e w1 ⟨rfl, rfl⟩
 go_wp2_with fail
 (with_reducible refine LG.out.mono ?_); rintro e w1 ⟨rfl, rfl⟩
 go_wp2
 go_ret2
 exact ⟨none, 0, rfl, RowF.nil _ _ _ _ (by decide), H.out.bel⟩
theorem packBad4 {A B : Option Addr} {c d m : Nat} {X Y : List Nat} (w : World) (T : Tab w) (hx : In w (.slice A (m + 1) c) X) (hy : In w (.slice B (m + 1) d) Y) (hX : X.length = m + 1) (hY : Y.length = m + 1) (hl : m + 1 ≤ 128) (hlog : 0 ≤ logI m) (h0 : nthN Y 0 = 0) (h1 : nthN Y m ≠ 0) : Calls Tryz.prog 42 #[.agg #[.slice A (m + 1) c, .slice B (m + 1) d]] w (MakesRB w [] false) := by
 have H := Ho.mk ((Hp.nil (Bel.refl w)).box [.slice A (m + 1) c, .slice B (m + 1) d] 24)
 have TT := Ho.mk (T.bel H.out.bel)
 have HX := Ho.mk (hx.bel H.out.bel)
 have HY := Ho.mk (hy.bel H.out.bel)
 have HXL := Ho.mk hX
 have HYL := Ho.mk hY
 have LG := Ho.mk (dLogN (k := (m : Int)) (w.alloc (.cells #[.slice A (m + 1) c, .slice B (m + 1) d] 24)) (by omega) TT.out)
 obtain ⟨z, hz⟩ : ∃ z, z = logZ (m : Int) := ⟨_, rfl⟩
 have hz0 : 0 ≤ z := by rw [hz]; unfold logZ; rw [if_neg (by omega), Int.toNat_natCast]; exact hlog
 have hz1 : z ≠ 10 := by
  rw [hz]; unfold logZ; rw [if_neg (by omega), Int.toNat_natCast]
  unfold logI
  split
  ·rename_i q
   intro e
   have : Nat.log2 m = 10 := by omega
   rw [this] at q
   omega
  ·decide
 rw [← hz] at LG
 have hz3 : decide (z < 0) = false := decide_eq_false (by omega)
 have hz4 : (z == 10) = false := by simp [hz1]
 obtain ⟨adX, hA⟩ := in_some hx (by omega)
 obtain ⟨adY, hB⟩ := in_some hy (by omega)
 subst hA; subst hB
 clear T hx hy hX hY hz hlog
 go_enter Tryz.func42, Tryz.ntmps42
 go_upto_region 1 with fail
 generalize w.alloc (.cells #[.slice (some adX) (m + 1) c, .slice (some adY) (m + 1) d] 24) = w0 at *
 have y0 := (H.out.blk 0 rfl).cell (i := 0) rfl
 have y1 := (H.out.blk 0 rfl).cell (i := 1) rfl
 have m0 : 0 < m + 1 := Nat.succ_pos m
 obtain ⟨r0, yr0, lr0, cr0⟩ := in_at HY.out (i := 0) (by have := HYL.out; omega)
 have yq0 := yr0
 rw [add_zero'] at yq0
 obtain ⟨r1, yr1, lr1, cr1⟩ := in_at HY.out (i := m) (by have := HYL.out; omega)
 have e0 : (FloatKind.f64.format.order r0 0 == some .eq) = true := by rw [eq0 lr0, cr0]; exact decide_eq_true h0
 replace e0 := ne_no e0
 clear cr0 lr0
 have hm2 : m < m + 1 := Nat.lt_succ_self m
 have e1 : (FloatKind.f64.format.order r1 0 == some .eq) = false := by rw [eq0 lr1, cr1]; exact decide_eq_false h1
 replace e1 := ne_yes e1
 clear cr1 lr1
 go_wp2_with fail
 (with_reducible refine LG.out.mono ?_); rintro e w1 ⟨rfl, rfl⟩
 go_wp2_with fail
 (with_reducible refine LG.out.mono ?_); rintro e w1 ⟨rfl, rfl⟩
 go_wp2
 go_ret2
 exact ⟨none, 0, rfl, RowF.nil _ _ _ _ (by decide), H.out.bel⟩
theorem packOk {A B : Option Addr} {c d m : Nat} {X Y : List Nat} (w : World) (T : Tab w) (hx : In w (.slice A (m + 1) c) X) (hy : In w (.slice B (m + 1) d) Y) (hX : X.length = m + 1) (hY : Y.length = m + 1) (hl : m + 1 ≤ 128) (hlog : 0 ≤ logI m) (h0 : nthN Y 0 = 0) (h1 : nthN Y m = 0) (hm1 : 1 ≤ m) : Calls Tryz.prog 42 #[.agg #[.slice A (m + 1) c, .slice B (m + 1) d]] w (MakesRB w (packN X Y) true) := by
 obtain ⟨pf, hpf⟩ : ∃ pf : Nat → Nat, pf = fun i => if i % 2 = 0 then nthN X (i / 2) else nthN Y (i / 2) := ⟨_, rfl⟩
 have HPF := Ho.mk hpf
 clear hpf
 have H := Ho.mk ((Hp.nil (Bel.refl w)).box [.slice A (m + 1) c, .slice B (m + 1) d] 24)
 have TT := Ho.mk (T.bel H.out.bel)
 have HX := Ho.mk (hx.bel H.out.bel)
 have HY := Ho.mk (hy.bel H.out.bel)
 have HXL := Ho.mk hX
 have HYL := Ho.mk hY
 have LG := Ho.mk (dLogN (k := (m : Int)) (w.alloc (.cells #[.slice A (m + 1) c, .slice B (m + 1) d] 24)) (by omega) TT.out)
 obtain ⟨z, hz⟩ : ∃ z, z = logZ (m : Int) := ⟨_, rfl⟩
 have hz0 : 0 ≤ z := by rw [hz]; unfold logZ; rw [if_neg (by omega), Int.toNat_natCast]; exact hlog
 have hz1 : z ≠ 10 := by
  rw [hz]; unfold logZ; rw [if_neg (by omega), Int.toNat_natCast]
  unfold logI
  split
  ·rename_i q
   intro e
   have : Nat.log2 m = 10 := by omega
   rw [this] at q
   omega
  ·decide
 rw [← hz] at LG
 have hz3 : decide (z < 0) = false := decide_eq_false (by omega)
 have hz4 : (z == 10) = false := by simp [hz1]
 obtain ⟨adX, hA⟩ := in_some hx (by omega)
 obtain ⟨adY, hB⟩ := in_some hy (by omega)
 subst hA; subst hB
 clear T hx hy hX hY hz hlog
 go_enter Tryz.func42, Tryz.ntmps42
 go_upto_region 1 with fail
 generalize w.alloc (.cells #[.slice (some adX) (m + 1) c, .slice (some adY) (m + 1) d] 24) = w0 at *
 have y0 := (H.out.blk 0 rfl).cell (i := 0) rfl
 have y1 := (H.out.blk 0 rfl).cell (i := 1) rfl
 have m0 : 0 < m + 1 := Nat.succ_pos m
 obtain ⟨r0, yr0, lr0, cr0⟩ := in_at HY.out (i := 0) (by have := HYL.out; omega)
 have yq0 := yr0
 rw [add_zero'] at yq0
 obtain ⟨r1, yr1, lr1, cr1⟩ := in_at HY.out (i := m) (by have := HYL.out; omega)
 have e0 : (FloatKind.f64.format.order r0 0 == some .eq) = true := by rw [eq0 lr0, cr0]; exact decide_eq_true h0
 replace e0 := ne_no e0
 clear cr0 lr0
 have hm2 : m < m + 1 := Nat.lt_succ_self m
 have e1 : (FloatKind.f64.format.order r1 0 == some .eq) = true := by rw [eq0 lr1, cr1]; exact decide_eq_true h1
 replace e1 := ne_no e1
 clear cr1 lr1
 go_wp2_with fail
 (with_reducible refine LG.out.mono ?_); rintro e w1 ⟨rfl, rfl⟩
 go_wp2_with fail
 (with_reducible refine LG.out.mono ?_); rintro e w1 ⟨rfl, rfl⟩
 go_wp2_with (at_make; refine wpList_mk _ rfl _ _ 97 rfl 50 (.float .f64 0) 8 Tryz.underlying97 infoF rfl (2 * m) rfl rfl (by omega) (by omega) ?_; intro w5 hk5 hb5 hs5)
 have FK := Ho.mk (show Fk w5 w0.heap.size (upTo pf (2 * m) 0) by rw [upTo_zero]; exact fk_zero hk5)
 have GB := Ho.mk hb5
 have l0 := H.out.bel.size
 have nX : adX.block ≠ w0.heap.size := by have := in_lt HX.out (by have := HXL.out; omega); omega
 have nY : adY.block ≠ w0.heap.size := by have := in_lt HY.out (by have := HYL.out; omega); omega
 have nZ : w.heap.size ≠ w0.heap.size := by have := (H.out.blk 0 rfl).lt; omega
 clear hk5 hb5 hs5 e0 e1 yr0 yq0 yr1 y0 y1
 obtain ⟨bo, hbo⟩ : ∃ bo, bo = w0.heap.size := ⟨_, rfl⟩
 rw [← hbo] at FK nX nY nZ ⊢
 have LBO := Ho.mk (show w.heap.size ≤ bo by omega)
 clear hbo
 go_loopw [46] (fun v wr => ∃ (i : Nat), i ≤ m ∧ v = .int .i64 i ∧ Ho (Fk wr bo (upTo pf (2 * m) (2 * i))) ∧ Ho (Gr bo w5 wr)) (fun v _ => m - (intOf v).toNat)
 case atStart => exact ⟨0, Nat.zero_le _, rfl, FK, ⟨Gr.refl _ _⟩⟩
 case round =>
  clear FK
  obtain ⟨i, hi, rfl, FK, HG⟩ := hrel
  have KZ := Ho.mk (HG.out.blk ((H.out.grow GB.out).blk 0 rfl) nZ)
  have y0 := KZ.out.cell (i := 0) rfl
  have y1 := KZ.out.cell (i := 1) rfl
  have n0 : (⟨w.heap.size, 0, none⟩ : Addr).block ≠ bo := nZ
  have n1 : (⟨w.heap.size, 1, none⟩ : Addr).block ≠ bo := nZ
  have nxa : ∀ j, (adX.add j).block ≠ bo := fun j => by rw [add_block]; exact nX
  have nya : ∀ j, (adY.add j).block ≠ bo := fun j => by rw [add_block]; exact nY
  rcases Nat.lt_or_ge i m with hlt | hge
  ·obtain ⟨rx, yx, lx, cx⟩ := in_at (HX.out.bel GB.out) (i := i) (by have := HXL.out; omega)
   obtain ⟨ry, yy, ly, cy⟩ := in_at (HY.out.bel GB.out) (i := i) (by have := HYL.out; omega)
   replace yx := gr_cell HG.out yx (nxa i)
   replace yy := gr_cell HG.out yy (nya i)
   have nx := nxa i
   have ny := nya i
   have WX := Ho.mk (And.intro lx cx)
   have WY := Ho.mk (And.intro ly cy)
   have hi4 : (i : Int) < (m : Int) + 1 := by omega
   clear lx cx ly cy nxa nya
   go_upto_region 8 with fail
   refine wp_region_held_drew (S := fun w' => Gr bo wr w') (by kernel_rfl) (Gr.refl bo wr).drew (fun hHeld => ?_)
   (try dsimp only at hHeld)
   refine rt (i := 0) hHeld ?_
   refine rt (i := 1) hHeld ?_
   refine rt (i := 2) hHeld ?_
   refine rl (i := 3) (v := ?_) hHeld (fun w' hSw => ?_) ?_
   rotate_left
   ·(have z0 := gr_cell hSw y0 n0; go_simp; try (with_reducible rfl))
   refine rt (i := 4) hHeld ?_
   refine rt (i := 5) hHeld ?_
   refine rl (i := 6) (v := ?_) hHeld (fun w' hSw => ?_) ?_
   rotate_left
   ·(have z0 := gr_cell hSw yx nx; go_simp; try (with_reducible rfl))
   refine rt (i := 7) hHeld ?_
   refine rl (i := 8) (v := ?_) hHeld (fun w' hSw => ?_) ?_
   rotate_left
   ·(have z0 := gr_cell hSw y1 n1; go_simp; try (with_reducible rfl))
   refine rt (i := 9) hHeld ?_
   refine rt (i := 10) hHeld ?_
   refine rl (i := 11) (v := ?_) hHeld (fun w' hSw => ?_) ?_
   rotate_left
   ·(have z0 := gr_cell hSw yy ny; go_simp; try (with_reducible rfl))
   try simp only [Act.put, List.setIfInBounds_toArray, List.set_cons_zero, List.set_cons_succ]
   refine rc (i := 12) (fun K hK => ?_)
   go_simp
   go_at_call 80
   (refine (dPut (n := 2 * m) (c := 2 * m) (k := i) _ (FK.out.bel (Bel.refl wr).drew) (by omega) (upTo_len _ _ _) (by omega) WX.out.1 WY.out.1).mono ?_); rintro e wpa ⟨rfl, fpa, gpa⟩
   try go_wp2_with fail
   refine hK.out _ _ (hHeld.trans gpa) (fun hHeld => ?_)
   clear hK K
   try simp only [Act.put, List.setIfInBounds_toArray, List.set_cons_zero, List.set_cons_succ]
   refine wpAnyH_done (by kernel_rfl) ?_ _
   have e2 := upTo_two pf (n := 2 * m) (k := i) (by omega) (a := cn rx) (b := cn ry) (by rw [WX.out.2, HPF.out]; simp only; rw [if_pos (by omega)]; congr 1; omega) (by rw [WY.out.2, HPF.out]; simp only; rw [if_neg (by omega)]; congr 1; omega)
   rw [e2] at fpa
   have FK := Ho.mk fpa
   have HG := Ho.mk (HG.out.trans hHeld)
   clear fpa gpa hHeld e2
   go_wp2_with fail
   go_roundw
   case rel => exact ⟨i + 1, by omega, by simp, FK, HG⟩
   case measure => simp [intOf]; omega
  ·obtain rfl : i = m := by omega
   obtain ⟨rx, yx0, lx, cx⟩ := in_at (HX.out.bel GB.out) (i := 0) (by have := HXL.out; omega)
   obtain ⟨rm, yxm, lm, cm⟩ := in_at (HX.out.bel GB.out) (i := i) (by have := HXL.out; omega)
   replace yx0 := gr_cell HG.out yx0 (nxa 0)
   replace yxm := gr_cell HG.out yxm (nxa i)
   have yq := yx0
   rw [add_zero'] at yq
   have nx := nxa 0
   have nx2 := nX
   have nxm := nxa i
   have hi4 : (i : Int) < (i : Int) + 1 := by omega
   have W0 := Ho.mk (And.intro lx cx)
   have WM := Ho.mk (And.intro lm cm)
   clear lx cx lm cm nxa nya
   go_upto_region 10 with fail
   refine wp_region_held_drew (S := fun w' => Gr bo wr w') (by kernel_rfl) (Gr.refl bo wr).drew (fun hHeld => ?_)
   (try dsimp only at hHeld)
   refine rt (i := 0) hHeld ?_
   refine rt (i := 1) hHeld ?_
   refine rl (i := 2) (v := ?_) hHeld (fun w' hSw => ?_) ?_
   rotate_left
   ·(have z0 := gr_cell hSw y0 n0; go_simp; try (with_reducible rfl))
   refine rt (i := 3) hHeld ?_
   refine rl (i := 4) (v := ?_) hHeld (fun w' hSw => ?_) ?_
   rotate_left
   ·(have z0 := gr_cell hSw yx0 nx; have z1 := gr_cell hSw yq nx2; go_simp; try (with_reducible rfl))
   refine rt (i := 5) hHeld ?_
   refine rl (i := 6) (v := ?_) hHeld (fun w' hSw => ?_) ?_
   rotate_left
   ·(have z0 := gr_cell hSw y0 n0; go_simp; try (with_reducible rfl))
   refine rt (i := 7) hHeld ?_
   refine rt (i := 8) hHeld ?_
   refine rl (i := 9) (v := ?_) hHeld (fun w' hSw => ?_) ?_
   rotate_left
   ·(have z0 := gr_cell hSw yxm nxm; go_simp; try (with_reducible rfl))
   try simp only [Act.put, List.setIfInBounds_toArray, List.set_cons_zero, List.set_cons_succ]
   refine rc (i := 10) (fun K hK => ?_)
   go_simp
   go_at_call 80
   (refine (dPut (n := 2 * i) (c := 2 * i) (k := 0) _ (FK.out.bel (Bel.refl wr).drew) (by omega) (upTo_len _ _ _) (by omega) W0.out.1 WM.out.1).mono ?_); rintro e wpa ⟨rfl, fpa, gpa⟩
   try go_wp2_with fail
   refine hK.out _ _ (hHeld.trans gpa) (fun hHeld => ?_)
   clear hK K
   try simp only [Act.put, List.setIfInBounds_toArray, List.set_cons_zero, List.set_cons_succ]
   refine wpAnyH_done (by kernel_rfl) ?_ _
   have BF := HG.out.trans hHeld
   have lz : i ≠ 0 := by omega
   have e3 : ((upTo pf (2 * i) (2 * i)).set (2 * 0) (cn rx)).set (2 * 0 + 1) (cn rm) = packN X Y := by
    unfold packN
    rw [HXL.out, W0.out.2, WM.out.2, Nat.add_sub_cancel]
    apply List.ext_getElem (by simp [upTo])
    intro q h1 h2
    simp only [upTo, List.getElem_set, List.getElem_map, List.getElem_range, packRow]
    by_cases q1 : q = 1
    ·subst q1; simp
    ·by_cases q0 : q = 0
     ·subst q0; simp
     ·have hq : q < 2 * i := by simpa [upTo] using h1
      rw [if_neg (by omega), if_neg (by omega), if_pos hq, if_neg q0, if_neg q1, HPF.out]
   rw [e3] at fpa
   have FK := Ho.mk fpa
   have HB := Ho.mk (BF.bel (H.out.bel.trans GB.out) LBO.out)
   clear fpa gpa hHeld e3 BF
   go_wp2
   go_ret2
   have lp : (packN X Y).length = 2 * i := by unfold packN; rw [List.length_map, List.length_range, HXL.out]; omega
   exact ⟨some ⟨bo, 0, none⟩, 2 * i, by rw [lp]; rfl, RowF.of FK.out.fz LBO.out (by omega) (by omega), HB.out⟩
theorem dPack {A B : Option Addr} {c d n n' : Nat} {X Y : List Nat} (w : World) (T : Tab w) (hx : In w (.slice A n c) X) (hy : In w (.slice B n' d) Y) (hX : X.length = n) (hY : Y.length = n') (hl : n ≤ 128) (hl' : n' ≤ 128) :
  Calls Tryz.prog 42 #[.agg #[.slice A n c, .slice B n' d]] w (MakesRB w (pkR X Y) (okK X Y)) := by
 by_cases h1 : n = n'
 ·subst h1
  by_cases h2 : n = 0 ∨ logI (n - 1) < 0
  ·have e : okK X Y = false := by
    unfold okK
    apply decide_eq_false
    rintro ⟨_, q1, q2, _⟩
    rw [hX] at q1 q2
    rcases h2 with h2 | h2 <;> omega
   unfold pkR; rw [e]
   exact packBad2 w T hx hy hX hY hl h2
  ·obtain ⟨m, rfl⟩ : ∃ m, n = m + 1 := ⟨n - 1, by omega⟩
   have hlog : 0 ≤ logI m := by have : ¬ logI (m + 1 - 1) < 0 := fun q => h2 (.inr q); rw [Nat.add_sub_cancel] at this; omega
   have hm1 : 1 ≤ m := by
    rcases Nat.eq_zero_or_pos m with q | q
    ·subst q; exact absurd hlog (by decide)
    ·exact q
   by_cases h3 : nthN Y 0 = 0
   ·by_cases h4 : nthN Y m = 0
    ·have e : okK X Y = true := by
      unfold okK
      exact decide_eq_true ⟨by rw [hX, hY], by rw [hX]; omega, by rw [hX]; exact hlog, h3, by rw [hX]; exact h4⟩
     unfold pkR; rw [e]
     exact packOk w T hx hy hX hY hl hlog h3 h4 hm1
    ·have e : okK X Y = false := by
      unfold okK
      apply decide_eq_false
      rintro ⟨_, _, _, _, q⟩
      rw [hX] at q; exact h4 q
     unfold pkR; rw [e]
     exact packBad4 w T hx hy hX hY hl hlog h3 h4
   ·have e : okK X Y = false := by
     unfold okK
     apply decide_eq_false
     rintro ⟨_, _, _, q, _⟩
     exact h3 q
    unfold pkR; rw [e]
    exact packBad3 w T hx hy hX hY hl hlog h3
 ·have e : okK X Y = false := by
   unfold okK
   apply decide_eq_false
   rintro ⟨q, _⟩
   rw [hX, hY] at q; exact h1 q
  unfold pkR; rw [e]
  exact packBad1 w hl hl' h1
end Y8
namespace Lv
open Ieee Go Go.RowKit Go.Proofs Go.Proofs.YtnbdoidccacdnaaGreatDoor Ow Dt Gp I0 U0 W0 S4 S6 P0 M0 M1 M2 M3 P4 P5 P6 P8 W4 W5 W1 W2 Pc Pe Pg Pj Pk
theorem litRow {w : World} {b n : Nat} {cs : List Value} {X : List Nat} (K : Blk w b 50 cs) (hc : cs = X.map (.float .f64)) (hX : X.all (fun x => decide (x < 2 * sgnW) && (cn x == x)) = true) (hn : X.length = n) (hl : n ≤ 1000) : RowF w b (.slice (some ⟨b, 0, none⟩) n n) X := by
 subst hc; subst hn
 have hx : ∀ x ∈ X, x < 2 * sgnW ∧ cn x = x := fun x h => by
  have := List.all_eq_true.1 hX x h
  simpa using this
 exact RowF.of ⟨_, K, fun j hj => ⟨.float .f64 X[j], by simp [hj], X[j], rfl, (hx _ (List.getElem_mem hj)).1, by rw [nthN_lt hj]; exact (hx _ (List.getElem_mem hj)).2⟩⟩ (Nat.le_refl _) (Nat.le_refl _) (Nat.le_trans hl (by decide))
theorem In.len {w : World} {A : Option Addr} {n c : Nat} {X : List Nat} (h : In w (.slice A n c) X) : n = X.length := by
 obtain ⟨A1, c1, e, _⟩ := h.out
 cases e; rfl
theorem RowF.len {w : World} {B : Nat} {A : Option Addr} {n c : Nat} {X : List Nat} (h : RowF w B (.slice A n c) X) : n = X.length := by
 obtain ⟨A1, c1, e, _⟩ := h.out
 cases e; rfl
theorem inn {w : World} {B : Nat} {v : Value} {X : List Nat} (h : RowF w B v X) (hm : X.length ≤ 100000) : In w v X := RowF.inn h (by omega)
theorem in_nil (w : World) (A : Option Addr) : In w (.slice none 0 0) [] := ⟨none, 0, rfl, Nat.le_refl _, by decide, Fr.nil _ _, fun _ => rfl⟩
section
variable {A B : Option Addr} {n m c c' : Nat} {X Y : List Nat} {w : World}
theorem pSame {A2 B2 : Option Addr} {n2 m2 c2 d2 : Nat} {X2 Y2 : List Nat} {z : Bool} (hx : In w (.slice A n c) X) (hy : In w (.slice B m c') Y) (hx2 : In w (.slice A2 n2 c2) X2) (hy2 : In w (.slice B2 m2 d2) Y2)
  (l1 : X.length ≤ 100000) (l2 : Y.length ≤ 100000) (l3 : X2.length ≤ 100000) (l4 : Y2.length ≤ 100000) (hz : z = decide (X = X2 ∧ Y = Y2)) :
  Calls Tryz.prog 21 #[.agg #[.slice A n c, .slice B m c'], .agg #[.slice A2 n2 c2, .slice B2 m2 d2]] w (fun e w' => e = .returned (.bool z) ∧ Bel w w') := by
 obtain rfl := In.len hx; obtain rfl := In.len hy; obtain rfl := In.len hx2; obtain rfl := In.len hy2
 rw [hz]
 exact dSame w hx hy hx2 hy2 l1 l2 l3 l4
end
end Lv
namespace Le
open Ieee Go Go.RowKit Go.Proofs Go.Proofs.YtnbdoidccacdnaaGreatDoor Ow Dt Gp I0 U0 W0 S4 S6 P0 M0 M1 M3 W4 W5 V2 P4 Y3 Yh Y1 P8 Pc Y5 Y6 Y7 Y8 Pk Lv Pj
open Go.Proofs.YtnbdoidccacdnaaGreatDoor.V1 (NI St ni_same ni_loop St.refl St.of_bel blk_keep ni_blk put_st)
open Go.Proofs.YtnbdoidccacdnaaGreatDoor.C6 (leaveAny)
open Go.Proofs.YtnbdoidccacdnaaGreatDoor.Pg (In)
attribute [local go_sem ↓] Go.wp_at_zero Go.wp_at_succ
section
variable {A B : Option Addr} {n m c c' : Nat} {X Y : List Nat} {w : World}
theorem pRfft (T : Tab w) (hx : In w (.slice A n c) X) (hl : X.length ≤ 128) {Z : List Nat} {z : Int} (h1 : Z = rfR X) (h2 : z = errF X) :
  Calls Tryz.prog 38 #[.slice A n c] w (MakesRE w Z z) := by
 obtain rfl := In.len hx
 rw [h1, h2]; exact dRfft w T hx hl
theorem pBins (T : Tab w) (hx : In w (.slice A n c) X) (hl : X.length ≤ 128) {Z1 Z2 : List Nat} {z : Bool} (h1 : Z1 = binsRe X) (h2 : Z2 = binsIm X) (h3 : z = okR X.length) :
  Calls Tryz.prog 40 #[.slice A n c] w (MakesVB w Z1 Z2 z) := by
 obtain rfl := In.len hx
 rw [h1, h2, h3]; exact dBins w T hx hl
theorem pPack (T : Tab w) (hx : In w (.slice A n c) X) (hy : In w (.slice B m c') Y) (hl : X.length ≤ 128) (hl' : Y.length ≤ 128) {Z : List Nat} {z : Bool} (h1 : Z = pkR X Y) (h2 : z = okK X Y) :
  Calls Tryz.prog 42 #[.agg #[.slice A n c, .slice B m c']] w (MakesRB w Z z) := by
 obtain rfl := In.len hx; obtain rfl := In.len hy
 rw [h1, h2]; exact dPack w T hx hy rfl rfl hl hl'
theorem pSameRow (hx : In w (.slice A n c) X) (hy : In w (.slice B m c') Y) (l1 : X.length ≤ 100000) (l2 : Y.length ≤ 100000) {z : Bool} (hz : z = decide (X = Y)) :
  Calls Tryz.prog 44 #[.slice A n c, .slice B m c'] w (fun e w' => e = .returned (.bool z) ∧ Bel w w') := by
 rw [hz]; exact dSameRowI w hx hy l1 l2
end
theorem h1 : rfR [4607182418800017408, 4611686018427387904, 4613937818241073152, 4616189618054758400] = [4621819117588971520, 13835058055282163712, 13835058055282163712, 4611686018427387904] ∧ errF [4607182418800017408, 4611686018427387904, 4613937818241073152, 4616189618054758400] = 0 := by decide +kernel
theorem h2 : rfR [4607182418800017408, 4611686018427387904, 4613937818241073152] = [] ∧ errF [4607182418800017408, 4611686018427387904, 4613937818241073152] = 2 := by decide +kernel
theorem h3 : binsRe [4621819117588971520, 13835058055282163712, 13835058055282163712, 4611686018427387904] = [4621819117588971520, 13835058055282163712, 13835058055282163712] ∧ binsIm [4621819117588971520, 13835058055282163712, 13835058055282163712, 4611686018427387904] = [0, 4611686018427387904, 0] ∧ okR 4 = true := by decide +kernel
theorem h4 : binsRe [] = [] ∧ binsIm [] = [] ∧ okR 0 = false := by decide +kernel
theorem h5 : pkR [4621819117588971520, 13835058055282163712, 13835058055282163712] [0, 4611686018427387904, 0] = [4621819117588971520, 13835058055282163712, 13835058055282163712, 4611686018427387904] ∧ okK [4621819117588971520, 13835058055282163712, 13835058055282163712] [0, 4611686018427387904, 0] = true := by decide +kernel
theorem h6 : pkR [4607182418800017408, 4611686018427387904] [0, 4607182418800017408] = [] ∧ okK [4607182418800017408, 4611686018427387904] [0, 4607182418800017408] = false := by decide +kernel
theorem head14 (w : World) (T : Tab w) : Calls Tryz.prog 37 #[] w (fun e w' => e = .returned (.bool true) ∧ Bel w w') := by
 have TT := Ho.mk T
 clear T
 go_enter Tryz.func37, Tryz.ntmps37
 go_wp2_with fail
 have K1 := Ho.mk (Blk.new w [.float .f64 4607182418800017408, .float .f64 4611686018427387904, .float .f64 4613937818241073152, .float .f64 4616189618054758400] 50)
 have g1 := Ho.mk ((Bel.refl w).alloc (.cells #[.float .f64 4607182418800017408, .float .f64 4611686018427387904, .float .f64 4613937818241073152, .float .f64 4616189618054758400] 50))
 generalize w.alloc (.cells #[.float .f64 4607182418800017408, .float .f64 4611686018427387904, .float .f64 4613937818241073152, .float .f64 4616189618054758400] 50) = v2 at *
 have R3 := Ho.mk (litRow (X := [4607182418800017408, 4611686018427387904, 4613937818241073152, 4616189618054758400]) K1.out rfl (by decide) (n := 4) rfl (by decide))
 obtain ⟨Z1, hZ1⟩ : ∃ Z, Z = [4621819117588971520, 13835058055282163712, 13835058055282163712, 4611686018427387904] := ⟨_, rfl⟩
 have C4 := Ho.mk (pRfft (TT.out.bel g1.out) (inn R3.out (by decide)) (by decide) (Z := Z1) (z := 0) (hZ1.trans h1.1.symm) h1.2.symm)
 (with_reducible refine C4.out.mono ?_); rintro e v5 ⟨Q1, c1, rfl, t1, b6⟩
 have b6H := Ho.mk b6
 have T1 := Ho.mk t1
 clear C4 b6 t1
 have HZ1 := Ho.mk hZ1
 clear hZ1
 go_wp2_with fail
 have K2 := Ho.mk (Blk.new v5 [.float .f64 4607182418800017408, .float .f64 4611686018427387904, .float .f64 4613937818241073152] 50)
 have g7 := Ho.mk ((Bel.refl v5).alloc (.cells #[.float .f64 4607182418800017408, .float .f64 4611686018427387904, .float .f64 4613937818241073152] 50))
 generalize v5.alloc (.cells #[.float .f64 4607182418800017408, .float .f64 4611686018427387904, .float .f64 4613937818241073152] 50) = v8 at *
 have R9 := Ho.mk (litRow (X := [4607182418800017408, 4611686018427387904, 4613937818241073152]) K2.out rfl (by decide) (n := 3) rfl (by decide))
 obtain ⟨Z2, hZ2⟩ : ∃ Z : List Nat, Z = [] := ⟨_, rfl⟩
 have C10 := Ho.mk (pRfft (TT.out.bel ((g1.out.trans b6H.out).trans g7.out)) (inn R9.out (by decide)) (by decide) (Z := Z2) (z := 2) (hZ2.trans h2.1.symm) h2.2.symm)
 (with_reducible refine C10.out.mono ?_); rintro e v11 ⟨Q2, c2, rfl, t2, b12⟩
 have b12H := Ho.mk b12
 have T2 := Ho.mk t2
 clear C10 b12 t2
 clear hZ2
 go_wp2_with fail
 obtain ⟨X3, hX3⟩ : ∃ Z, Z = [4621819117588971520, 13835058055282163712, 13835058055282163712] := ⟨_, rfl⟩
 obtain ⟨Y3, hY3⟩ : ∃ Z, Z = [0, 4611686018427387904, 0] := ⟨_, rfl⟩
 have C13 := Ho.mk (pBins (TT.out.bel (((g1.out.trans b6H.out).trans g7.out).trans b12H.out)) (inn (T1.out.bel (g7.out.trans b12H.out)) (by rw [HZ1.out]; decide)) (by rw [HZ1.out]; decide) (Z1 := X3) (Z2 := Y3) (z := true) (by rw [hX3, HZ1.out]; exact h3.1.symm) (by rw [hY3, HZ1.out]; exact h3.2.1.symm) (by rw [HZ1.out]; exact h3.2.2.symm))
 (with_reducible refine C13.out.mono ?_); rintro e v14 ⟨Q3, c3, S3, d3, rfl, t3, b15⟩
 have b15H := Ho.mk b15
 have T3 := Ho.mk t3
 clear C13 b15 t3
 have HX3 := Ho.mk hX3
 clear hX3
 have HY3 := Ho.mk hY3
 clear hY3
 go_wp2_with fail
 have B3 := Ho.mk (Blk.new v14 [.slice Q3 X3.length c3, .slice S3 Y3.length d3] 24)
 have g16 := Ho.mk ((Bel.refl v14).alloc (.cells #[.slice Q3 X3.length c3, .slice S3 Y3.length d3] 24))
 generalize v14.alloc (.cells #[.slice Q3 X3.length c3, .slice S3 Y3.length d3] 24) = v17 at *
 obtain ⟨X4, hX4⟩ : ∃ Z : List Nat, Z = [] := ⟨_, rfl⟩
 obtain ⟨Y4, hY4⟩ : ∃ Z : List Nat, Z = [] := ⟨_, rfl⟩
 have C18 := Ho.mk (pBins (TT.out.bel (((((g1.out.trans b6H.out).trans g7.out).trans b12H.out).trans b15H.out).trans g16.out)) (in_nil _ none) (by decide) (Z1 := X4) (Z2 := Y4) (z := false) (by rw [hX4]; exact h4.1.symm) (by rw [hY4]; exact h4.2.1.symm) h4.2.2.symm)
 (with_reducible refine C18.out.mono ?_); rintro e v19 ⟨Q4, c4, S4, d4, rfl, t4, b20⟩
 have b20H := Ho.mk b20
 have T4 := Ho.mk t4
 clear C18 b20 t4
 clear hX4 hY4
 go_upto_region 5 with fail
 have B4 := Ho.mk (Blk.new v19 [.slice Q4 X4.length c4, .slice S4 Y4.length d4] 24)
 have g21 := Ho.mk ((Bel.refl v19).alloc (.cells #[.slice Q4 X4.length c4, .slice S4 Y4.length d4] 24))
 generalize v19.alloc (.cells #[.slice Q4 X4.length c4, .slice S4 Y4.length d4] 24) = v22 at *
 have y23 := ((B3.out.bel (b20H.out.trans g21.out))).cell (i := 0) rfl
 have y24 := ((B3.out.bel (b20H.out.trans g21.out))).cell (i := 1) rfl
 go_wp2_with fail
 obtain ⟨Z5, hZ5⟩ : ∃ Z, Z = [4621819117588971520, 13835058055282163712, 13835058055282163712, 4611686018427387904] := ⟨_, rfl⟩
 have C25 := Ho.mk (pPack (TT.out.bel (((((((g1.out.trans b6H.out).trans g7.out).trans b12H.out).trans b15H.out).trans g16.out).trans b20H.out).trans g21.out)) (inn (T3.out.bel ((g16.out.trans b20H.out).trans g21.out)).one (by rw [HX3.out]; decide)) (inn (T3.out.bel ((g16.out.trans b20H.out).trans g21.out)).two (by rw [HY3.out]; decide)) (by rw [HX3.out]; decide) (by rw [HY3.out]; decide) (Z := Z5) (z := true) (by rw [hZ5, HX3.out, HY3.out]; exact h5.1.symm) (by rw [HX3.out, HY3.out]; exact h5.2.symm))
 (with_reducible refine C25.out.mono ?_); rintro e v26 ⟨Q5, c5, rfl, t5, b27⟩
 have b27H := Ho.mk b27
 have T5 := Ho.mk t5
 clear C25 b27 t5
 have HZ5 := Ho.mk hZ5
 clear hZ5
 clear y23 y24
 go_wp2_with fail
 have K6 := Ho.mk ((Blk.new v26 [.float .f64 4607182418800017408, .float .f64 4611686018427387904] 50).old (.cells #[.float .f64 0, .float .f64 4607182418800017408] 50))
 have K7 := Ho.mk (Blk.new (v26.alloc (.cells #[.float .f64 4607182418800017408, .float .f64 4611686018427387904] 50)) [.float .f64 0, .float .f64 4607182418800017408] 50)
 simp only [World.size_alloc] at K7
 have g28 := Ho.mk (((Bel.refl v26).alloc (.cells #[.float .f64 4607182418800017408, .float .f64 4611686018427387904] 50)).alloc (.cells #[.float .f64 0, .float .f64 4607182418800017408] 50))
 generalize (v26.alloc (.cells #[.float .f64 4607182418800017408, .float .f64 4611686018427387904] 50)).alloc (.cells #[.float .f64 0, .float .f64 4607182418800017408] 50) = v29 at *
 have R30 := Ho.mk (litRow (X := [4607182418800017408, 4611686018427387904]) K6.out rfl (by decide) (n := 2) rfl (by decide))
 have R31 := Ho.mk (litRow (X := [0, 4607182418800017408]) K7.out rfl (by decide) (n := 2) rfl (by decide))
 obtain ⟨Z6, hZ6⟩ : ∃ Z : List Nat, Z = [] := ⟨_, rfl⟩
 have C32 := Ho.mk (pPack (TT.out.bel (((((((((g1.out.trans b6H.out).trans g7.out).trans b12H.out).trans b15H.out).trans g16.out).trans b20H.out).trans g21.out).trans b27H.out).trans g28.out)) (inn R30.out (by decide)) (inn R31.out (by decide)) (by decide) (by decide) (Z := Z6) (z := false) (hZ6.trans h6.1.symm) h6.2.symm)
 (with_reducible refine C32.out.mono ?_); rintro e v33 ⟨Q6, c6, rfl, t6, b34⟩
 have b34H := Ho.mk b34
 have T6 := Ho.mk t6
 clear C32 b34 t6
 clear hZ6
 go_wp2_with fail
 have K8 := Ho.mk (Blk.new v33 [.float .f64 4621819117588971520, .float .f64 13835058055282163712, .float .f64 13835058055282163712, .float .f64 4611686018427387904] 50)
 have g35 := Ho.mk ((Bel.refl v33).alloc (.cells #[.float .f64 4621819117588971520, .float .f64 13835058055282163712, .float .f64 13835058055282163712, .float .f64 4611686018427387904] 50))
 generalize v33.alloc (.cells #[.float .f64 4621819117588971520, .float .f64 13835058055282163712, .float .f64 13835058055282163712, .float .f64 4611686018427387904] 50) = v36 at *
 have R37 := Ho.mk (litRow (X := [4621819117588971520, 13835058055282163712, 13835058055282163712, 4611686018427387904]) K8.out rfl (by decide) (n := 4) rfl (by decide))
 have C38 := Ho.mk (pSameRow (z := true) (inn (T1.out.bel (((((((((g7.out.trans b12H.out).trans b15H.out).trans g16.out).trans b20H.out).trans g21.out).trans b27H.out).trans g28.out).trans b34H.out).trans g35.out)) (by rw [HZ1.out]; decide)) (inn R37.out (by decide)) (by rw [HZ1.out]; decide) (by decide) (by rw [HZ1.out]; decide))
 (with_reducible refine C38.out.mono ?_); rintro e v39 ⟨rfl, b40⟩
 have b40H := Ho.mk b40
 clear C38 b40
 have y41 := ((B3.out.bel ((((((b20H.out.trans g21.out).trans b27H.out).trans g28.out).trans b34H.out).trans g35.out).trans b40H.out))).cell (i := 0) rfl
 have y42 := ((B3.out.bel ((((((b20H.out.trans g21.out).trans b27H.out).trans g28.out).trans b34H.out).trans g35.out).trans b40H.out))).cell (i := 1) rfl
 go_wp2_with fail
 have K9 := Ho.mk ((Blk.new v39 [.float .f64 4621819117588971520, .float .f64 13835058055282163712, .float .f64 13835058055282163712] 50).old (.cells #[.float .f64 0, .float .f64 4611686018427387904, .float .f64 0] 50))
 have Ka := Ho.mk (Blk.new (v39.alloc (.cells #[.float .f64 4621819117588971520, .float .f64 13835058055282163712, .float .f64 13835058055282163712] 50)) [.float .f64 0, .float .f64 4611686018427387904, .float .f64 0] 50)
 simp only [World.size_alloc] at Ka
 have g43 := Ho.mk (((Bel.refl v39).alloc (.cells #[.float .f64 4621819117588971520, .float .f64 13835058055282163712, .float .f64 13835058055282163712] 50)).alloc (.cells #[.float .f64 0, .float .f64 4611686018427387904, .float .f64 0] 50))
 generalize (v39.alloc (.cells #[.float .f64 4621819117588971520, .float .f64 13835058055282163712, .float .f64 13835058055282163712] 50)).alloc (.cells #[.float .f64 0, .float .f64 4611686018427387904, .float .f64 0] 50) = v44 at *
 have R45 := Ho.mk (litRow (X := [4621819117588971520, 13835058055282163712, 13835058055282163712]) K9.out rfl (by decide) (n := 3) rfl (by decide))
 have R46 := Ho.mk (litRow (X := [0, 4611686018427387904, 0]) Ka.out rfl (by decide) (n := 3) rfl (by decide))
 have C47 := Ho.mk (pSame (z := true) (inn ((T3.out.bel ((((((((g16.out.trans b20H.out).trans g21.out).trans b27H.out).trans g28.out).trans b34H.out).trans g35.out).trans b40H.out).trans g43.out))).one (by rw [HX3.out]; decide)) (inn ((T3.out.bel ((((((((g16.out.trans b20H.out).trans g21.out).trans b27H.out).trans g28.out).trans b34H.out).trans g35.out).trans b40H.out).trans g43.out))).two (by rw [HY3.out]; decide)) (inn R45.out (by decide)) (inn R46.out (by decide)) (by rw [HX3.out]; decide) (by rw [HY3.out]; decide) (by decide) (by decide) (by rw [HX3.out, HY3.out]; decide))
 (with_reducible refine C47.out.mono ?_); rintro e v48 ⟨rfl, b49⟩
 have b49H := Ho.mk b49
 clear C47 b49
 clear y41 y42
 go_wp2_with fail
 have C50 := Ho.mk (pSameRow (z := true) (inn (T5.out.bel (((((g28.out.trans b34H.out).trans g35.out).trans b40H.out).trans g43.out).trans b49H.out)) (by rw [HZ5.out]; decide)) (inn (T1.out.bel ((((((((((((g7.out.trans b12H.out).trans b15H.out).trans g16.out).trans b20H.out).trans g21.out).trans b27H.out).trans g28.out).trans b34H.out).trans g35.out).trans b40H.out).trans g43.out).trans b49H.out)) (by rw [HZ1.out]; decide)) (by rw [HZ5.out]; decide) (by rw [HZ1.out]; decide) (by rw [HZ1.out, HZ5.out]; decide))
 (with_reducible refine C50.out.mono ?_); rintro e v51 ⟨rfl, b52⟩
 have b52H := Ho.mk b52
 clear C50 b52
 go_wp2
 go_ret
 exact ⟨rfl, (((((((((((((((g1.out.trans b6H.out).trans g7.out).trans b12H.out).trans b15H.out).trans g16.out).trans b20H.out).trans g21.out).trans b27H.out).trans g28.out).trans b34H.out).trans g35.out).trans b40H.out).trans g43.out).trans b49H.out).trans b52H.out)⟩
end Le
namespace Pf
open Go Go.ChangeShapes Go.WideShapes Go.ChangeAt Go.RowKit Go.Proofs.YtnbdoidccacdnaaGreatDoor Ow Dt Gp W0 W4 W5 Pg Pd
section
variable {H : Type} {enc : TypeId × Value → H} {P : Program} {w : World} {base : Nat} {spare : Nat → Bool} {held : Bool} {fuel m : Nat} {t : TypeId} {cs : List Value} {x : DataW H × List MemPlace}
theorem trod_float {k : FloatKind} (ht : P.underlying t = some (.float k)) (h : DataW.trod enc P w base spare held fuel t cs = some x) : ∃ n, cs = [.float k n] ∧ x = (.lit (.float k n), []) ∧ (Lit.float k n).wf = true := by
 cases fuel with
 | zero => simp [DataW.trod] at h
 | succ n =>
  unfold DataW.trod at h
  rw [ht] at h
  split at h <;> simp_all
end
theorem wf_lt {b : Nat} (h : (Lit.float .f64 b).wf = true) : b < 2 * sgnW := by
 have : b < 2 ^ 64 := by simpa [Lit.wf] using h
 exact this
theorem cF : Tryz.prog.cellsOf 50 = 1 := by kernel_rfl
theorem bytesF : Tryz.prog.bytesOf 50 = 8 := by kernel_rfl
def clsOf (V : Nat → Value) (n : Nat) : List Nat := (List.range n).map fun i => match V i with
 | .float _ b => cn b
 | _ => 0
theorem open_row {H : Type} {enc : TypeId × Value → H} {W : World} {fuel : Nat} {cs : List Value} {x : DataW H × List MemPlace} (h : DataW.trod enc Tryz.prog W 0 (fun _ => true) true fuel 22 cs = some x)
  (hsz : ∀ n ∈ x.1.weights Tryz.prog 22, n ≤ reachBytes) : ∃ A c X, cs = [.slice A X.length c] ∧ In W (.slice A X.length c) X ∧ X.length ≤ 17592186043904 := by
 rcases Deep.open_slice1 Tryz.underlying22 cF h with ⟨h1, _⟩ | ⟨a, len, cap, m, n, V, D, Pl, rfl, _, hle, hmax, hm, hx, hV⟩
 ·exact ⟨none, 0, [], h1, ⟨none, 0, rfl, Nat.le_refl _, by decide, Fr.nil _ _, fun _ => rfl⟩, by simp⟩
 ·rw [if_pos rfl] at hm
  have hq : cap * 8 ≤ reachBytes := by
   refine hsz (cap * 8) ?_
   rw [congrArg Prod.fst hx]
   simp only [DataW.weights, Tryz.underlying22, bytesF, List.length_map, List.length_range, List.mem_cons]
   left; rw [hm, Nat.add_sub_cancel' hle]
  have hr : cap ≤ 17592186043904 := by
   have e8 : cap * 8 ≤ 17592186043904 * 8 := Nat.le_trans hq (by decide)
   exact Nat.le_of_mul_le_mul_right e8 (by decide)
  have hlen : (clsOf V len).length = len := by simp [clsOf]
  refine ⟨some a, cap, clsOf V len, by rw [hlen], ⟨some a, cap, by rw [hlen], by rw [hlen]; exact hle, hmax, ⟨by rw [hlen]; omega, fun j hj => ?_⟩, fun e => by cases e⟩, by rw [hlen]; omega⟩
  rw [hlen] at hj
  obtain ⟨k1, k2⟩ := hV j (by omega)
  obtain ⟨b, e, _, hw⟩ := trod_float Tryz.underlying50 k2
  simp only [List.cons.injEq, and_true] at e
  refine ⟨a, V j, rfl, k1, b, e, wf_lt hw, ?_⟩
  rw [nthN_lt (by rw [hlen]; exact hj)]
  simp [clsOf, e]
theorem open_floats {H : Type} {enc : TypeId × Value → H} {W : World} {base : Nat} {v : Value} {d : DataW H} {p : List MemPlace} (hval : Value.okWide Tryz.prog W .any base 22 v) (hd : DataW.Trod enc Tryz.prog W 0 (fun _ => true) true 22 v d p)
  (hsz : ∀ n ∈ d.weights Tryz.prog 22, n ≤ reachBytes) : ∃ A c X, v = .slice A X.length c ∧ In W (.slice A X.length c) X := by
 obtain ⟨a, len, cap, rfl⟩ := WideShapes.okWide_slice Tryz.underlying22 hval
 obtain ⟨fuel, hf⟩ := hd
 obtain ⟨A, c, X, e, h, _⟩ := open_row hf hsz
 simp only [Value.cells, List.cons.injEq, and_true] at e
 exact ⟨A, c, X, e, h⟩
end Pf
namespace Lg
open Ieee Go Go.RowKit Go.Proofs Go.Proofs.YtnbdoidccacdnaaGreatDoor Ow Dt Gp I0 U0 W0 S4 S6 P0 M0 M1 M3 W4 W5 V2 P4 Y3 Yh Y1 P8 Pc Y5 Y6 Y7 Y8 Pk Lv Pj Le
open Go.Proofs.YtnbdoidccacdnaaGreatDoor.V1 (NI St ni_same ni_loop St.refl St.of_bel blk_keep ni_blk put_st)
open Go.Proofs.YtnbdoidccacdnaaGreatDoor.C6 (leaveAny)
open Go.Proofs.YtnbdoidccacdnaaGreatDoor.Pg (In)
attribute [local go_sem ↓] Go.wp_at_zero Go.wp_at_succ
theorem rfR_len {X : List Nat} (hok : okR X.length = true) : (rfR X).length = X.length := by
 obtain ⟨h1, h2, _⟩ := okR_pow hok
 unfold rfR; rw [if_pos hok, rfftN_len]; exact h1.symm
end Lg
namespace M4
open M0 M1 M2
variable {α β : Type} (A : Ops α) (B : Ops β)
theorem cat_at {p i : Nat} (e o : List α × List α) (tw : Nat → Nat × Nat) (hi : i < 2 ^ (p + 1)) :
  (nthG A (mergeL A (2 ^ p) tw e o).1 i, nthG A (mergeL A (2 ^ p) tw e o).2 i) =
   if i < 2 ^ p then cadd A (nthG A e.1 i) (nthG A e.2 i) (tw1 A tw i (nthG A o.1 i) (nthG A o.2 i)).1 (tw1 A tw i (nthG A o.1 i) (nthG A o.2 i)).2
   else csub A (nthG A e.1 (i - 2 ^ p)) (nthG A e.2 (i - 2 ^ p)) (tw1 A tw (i - 2 ^ p) (nthG A o.1 (i - 2 ^ p)) (nthG A o.2 (i - 2 ^ p))).1 (tw1 A tw (i - 2 ^ p) (nthG A o.1 (i - 2 ^ p)) (nthG A o.2 (i - 2 ^ p))).2 := by
 rw [Nat.pow_succ] at hi
 simp only [mergeL, appP, nthG_app, List.length_map, List.length_range]
 split
 ·rename_i h; rw [nthG_map _ _ h, nthG_map _ _ h]; rfl
 ·rename_i h; rw [nthG_map _ _ (by omega), nthG_map _ _ (by omega)]; rfl
theorem rec_rel (T : Nat → α × α → β × β → Prop) (tw tw' : Nat → Nat → Nat × Nat) {P : Nat}
  (hm : ∀ q k e o e' o', q < P → k < 2 ^ q → T q e e' → T q o o' →
   T (q + 1) (cadd A e.1 e.2 (tw1 A (tw q) k o.1 o.2).1 (tw1 A (tw q) k o.1 o.2).2) (cadd B e'.1 e'.2 (tw1 B (tw' q) k o'.1 o'.2).1 (tw1 B (tw' q) k o'.1 o'.2).2) ∧
   T (q + 1) (csub A e.1 e.2 (tw1 A (tw q) k o.1 o.2).1 (tw1 A (tw q) k o.1 o.2).2) (csub B e'.1 e'.2 (tw1 B (tw' q) k o'.1 o'.2).1 (tw1 B (tw' q) k o'.1 o'.2).2))
  (p : Nat) (hp : p ≤ P) (st : List α × List α) (st' : List β × List β) (h1 : st.1.length = 2 ^ p) (h2 : st.2.length = 2 ^ p) (h3 : st'.1.length = 2 ^ p) (h4 : st'.2.length = 2 ^ p)
  (h : ∀ i, i < 2 ^ p → T 0 (nthG A st.1 i, nthG A st.2 i) (nthG B st'.1 i, nthG B st'.2 i)) :
  ∀ i, i < 2 ^ p → T p (nthG A (recG A tw p st).1 i, nthG A (recG A tw p st).2 i) (nthG B (recG B tw' p st').1 i, nthG B (recG B tw' p st').2 i) := by
 induction p generalizing st st' with
 | zero => exact h
 | succ p ih =>
  have e3 : 2 ^ (p + 1) = 2 ^ p + 2 ^ p := by rw [Nat.pow_succ]; omega
  have le : ∀ {γ : Type} (G : Ops γ) (l : List γ), l.length = 2 ^ (p + 1) → (evenG G l).length = 2 ^ p ∧ (oddG G l).length = 2 ^ p := fun G l hl => by
   rw [evenG_len, oddG_len]; omega
  have E := ih (by omega) (evenG A st.1, evenG A st.2) (evenG B st'.1, evenG B st'.2) (le A _ h1).1 (le A _ h2).1 (le B _ h3).1 (le B _ h4).1 (fun i hi => by
   have := h (2 * i) (by omega)
   rw [nthG_even _ _ (by omega), nthG_even _ _ (by omega), nthG_even _ _ (by omega), nthG_even _ _ (by omega)]; exact this)
  have O := ih (by omega) (oddG A st.1, oddG A st.2) (oddG B st'.1, oddG B st'.2) (le A _ h1).2 (le A _ h2).2 (le B _ h3).2 (le B _ h4).2 (fun i hi => by
   have := h (2 * i + 1) (by omega)
   rw [nthG_odd _ _ (by omega), nthG_odd _ _ (by omega), nthG_odd _ _ (by omega), nthG_odd _ _ (by omega)]; exact this)
  intro i hi
  show T (p + 1) (nthG A (mergeL A (2 ^ p) (tw p) _ _).1 i, nthG A (mergeL A (2 ^ p) (tw p) _ _).2 i) (nthG B (mergeL B (2 ^ p) (tw' p) _ _).1 i, nthG B (mergeL B (2 ^ p) (tw' p) _ _).2 i)
  rw [cat_at A _ _ _ hi, cat_at B _ _ _ hi]
  split
  ·rename_i c
   exact (hm p i _ _ _ _ (by omega) c (E i c) (O i c)).1
  ·rename_i c
   exact (hm p (i - 2 ^ p) _ _ _ _ (by omega) (by omega) (E _ (by omega)) (O _ (by omega))).2
end M4
namespace W3
open Ieee Go Gp Gq Gr W0 W1 W2
theorem rhe_scale (X d k : Nat) : rhe (X * 2 ^ k) (d + k) = rhe X d := by
 unfold rhe
 have hk := Nat.two_pow_pos k
 rw [Nat.pow_add, Nat.mul_div_mul_right _ _ hk, Nat.mul_mod_mul_right]
 have e1 : (2 ^ d * 2 ^ k < 2 * (X % 2 ^ d * 2 ^ k)) = (2 ^ d < 2 * (X % 2 ^ d)) := by
  rw [← Nat.mul_assoc]; exact propext (Nat.mul_lt_mul_right hk)
 have e2 : (2 ^ d * 2 ^ k = 2 * (X % 2 ^ d * 2 ^ k)) = (2 ^ d = 2 * (X % 2 ^ d)) := by
  rw [← Nat.mul_assoc]; exact propext (Nat.mul_right_cancel_iff hk)
 simp only [e1, e2]
theorem log2_53 {X : Nat} (h : 2 ^ 53 ≤ X) : 53 ≤ Nat.log2 X := by
 have : ¬ Nat.log2 X < 53 := fun q => by
  have := (Nat.log2_lt (by have := Nat.two_pow_pos 53; omega)).1 q
  omega
 omega
theorem rung_big {X : Nat} (h : 2 ^ 53 ≤ X) : rung X 0 = (Nat.log2 X - 52) * bn + rhe X (Nat.log2 X - 52) ∧ bn ≤ rhe X (Nat.log2 X - 52) ∧ rhe X (Nat.log2 X - 52) ≤ 2 * bn ∧ mag (rung X 0) = rhe X (Nat.log2 X - 52) * 2 ^ (Nat.log2 X - 52) := by
 have h0 : X ≠ 0 := by have := Nat.two_pow_pos 53; omega
 have hl := log2_53 h
 have e : rung X 0 = (Nat.log2 X - 52) * bn + rhe X (Nat.log2 X - 52) := by
  unfold rung; rw [if_neg h0, Nat.add_zero, Nat.zero_add]
 have lo := Nat.log2_self_le h0
 have hi := Nat.lt_log2_self (n := X)
 have hh := half_rhe X (Nat.log2 X - 52)
 have g1 : bn ≤ rhe X (Nat.log2 X - 52) := hh.ge (by
  rw [bn_eq, ← Nat.pow_add, show 52 + (Nat.log2 X - 52) = Nat.log2 X from by omega]; exact lo)
 have g2 : rhe X (Nat.log2 X - 52) ≤ 2 * bn := hh.le (by
  rw [bn_eq, ← Nat.pow_succ', ← Nat.pow_add, show 52 + 1 + (Nat.log2 X - 52) = Nat.log2 X + 1 from by omega]; exact Nat.le_of_lt hi)
 refine ⟨e, g1, g2, ?_⟩
 rw [e, mag_at _ _ g2 (.inr g1)]
theorem rung_mul {X k : Nat} (h : 2 ^ 53 ≤ X) : mag (rung (X * 2 ^ k) 0) = mag (rung X 0) * 2 ^ k := by
 have hk := Nat.two_pow_pos k
 have h' : 2 ^ 53 ≤ X * 2 ^ k := Nat.le_trans h (Nat.le_mul_of_pos_right _ hk)
 have h0 : X ≠ 0 := by have := Nat.two_pow_pos 53; omega
 have hl := log2_53 h
 rw [(rung_big h').2.2.2, (rung_big h).2.2.2, log2_shift _ _ h0, show Nat.log2 X + k - 52 = Nat.log2 X - 52 + k from by omega, rhe_scale, Nat.pow_add, Nat.mul_assoc]
theorem rung_dvd {X g : Nat} (h : 2 ^ 53 ≤ X) (hd : 2 ^ g ∣ X) : 2 ^ g ∣ mag (rung X 0) := by
 rw [(rung_big h).2.2.2]
 by_cases c : Nat.log2 X - 52 ≤ g
 ·-- exact
  obtain ⟨t, ht⟩ := hd
  have : X = t * 2 ^ (g - (Nat.log2 X - 52)) * 2 ^ (Nat.log2 X - 52) := by
   rw [Nat.mul_assoc, ← Nat.pow_add, show g - (Nat.log2 X - 52) + (Nat.log2 X - 52) = g from by omega, Nat.mul_comm]; exact ht
  have e : rhe X (Nat.log2 X - 52) * 2 ^ (Nat.log2 X - 52) = X := by
   generalize Nat.log2 X - 52 = d at *
   generalize t * 2 ^ (g - d) = y at *
   subst this
   have hh := half_rhe (y * 2 ^ d) d
   have a := hh.le (Nat.le_refl _)
   have b := hh.ge (Nat.le_refl _)
   rw [Nat.le_antisymm a b]
  rw [e]; exact ⟨t, ht⟩
 ·exact Nat.dvd_trans (Nat.pow_dvd_pow 2 (by omega)) (Nat.dvd_mul_left _ _)
theorem rung_pow {h e : Nat} (he : e = h - 51) (h1 : 52 ≤ h) : rung (2 ^ h) 0 = P2 e := by
 have := rung_exact (P2 e) 0
 rwa [Nat.pow_zero, Nat.mul_one, mag_P2 rfl (by omega), show 52 + (e - 1) = h from by omega] at this
theorem rung_top {X h : Nat} (hX : X ≤ 2 ^ h) (h1 : 52 ≤ h) (h2 : h ≤ 2097) : rung X 0 < infR ∧ mag (rung X 0) ≤ 2 ^ h := by
 have a := rung_mono (s := 0) hX
 rw [rung_pow rfl h1] at a
 refine ⟨Nat.lt_of_le_of_lt a (by unfold P2 infR bn; omega), ?_⟩
 have := mag_le.2 a
 rwa [mag_P2 rfl (by omega), show 52 + (h - 51 - 1) = h from by omega] at this
structure Gd (g h x : Nat) : Prop where
 nm : Nm x
 dvd : 2 ^ g ∣ (V x).natAbs
 bd : (V x).natAbs ≤ 2 ^ h
theorem Gd.mono {g h g' h' x : Nat} (H : Gd g h x) (a : g' ≤ g) (b : h ≤ h') : Gd g' h' x :=
 ⟨H.nm, Nat.dvd_trans (Nat.pow_dvd_pow 2 a) H.dvd, Nat.le_trans H.bd (Nat.pow_le_pow_right (by decide) b)⟩
theorem gd_zero (g h : Nat) : Gd g h 0 := ⟨nm_zero, by rw [show V 0 = 0 from by decide]; exact Nat.dvd_zero _, by rw [show V 0 = 0 from by decide]; exact Nat.zero_le _⟩
structure Sc (n : Bool) (k g h x y : Nat) : Prop where
 gd : Gd g h x
 nm : Nm y
 v : V y = (if n then -1 else 1) * (V x * 2 ^ k)
theorem Sc.mono {n : Bool} {k g h g' h' x y : Nat} (H : Sc n k g h x y) (a : g' ≤ g) (b : h ≤ h') : Sc n k g' h' x y := ⟨H.gd.mono a b, H.nm, H.v⟩
theorem sc_zero (n : Bool) (k g h : Nat) : Sc n k g h 0 0 := ⟨gd_zero g h, nm_zero, by rw [show V 0 = 0 from by decide]; simp⟩
theorem big_of {v : Int} {g : Nat} (hg : 53 ≤ g) (hd : 2 ^ g ∣ v.natAbs) (h0 : v ≠ 0) : 2 ^ 53 ≤ v.natAbs := by
 have : 2 ^ g ≤ v.natAbs := Nat.le_of_dvd (by omega) hd
 exact Nat.le_trans (Nat.pow_le_pow_right (by decide) hg) this
theorem R_sc (n : Bool) {v w : Int} {k g h : Nat} (hg : 53 ≤ g) (h1 : 52 ≤ h) (h2 : h + k ≤ 2097) (hd : 2 ^ g ∣ v.natAbs) (hb : v.natAbs ≤ 2 ^ h) (hw : w = (if n then -1 else 1) * (v * 2 ^ k)) :
  Sc n k g h (R v 0) (R w 0) := by
 have hwa : w.natAbs = v.natAbs * 2 ^ k := by
  rw [hw, Int.natAbs_mul, Int.natAbs_mul, show ((2 : Int) ^ k).natAbs = 2 ^ k from by rw [Int.natAbs_pow]; rfl]
  cases n <;> simp
 by_cases h0 : v = 0
 ·subst h0
  have : w = 0 := by rw [hw]; simp
  subst this
  rw [R_zero]; exact sc_zero _ _ _ _
 ·have hbig := big_of hg hd h0
  have t1 := rung_top hb h1 (by omega)
  have hb2 : w.natAbs ≤ 2 ^ (h + k) := by rw [hwa, Nat.pow_add]; exact Nat.mul_le_mul_right _ hb
  have t2 := rung_top hb2 (by omega) h2
  have e1 : V (R v 0) = sv (decide (v < 0)) (mag (rung v.natAbs 0)) := by rw [V_R, Nat.min_eq_left (Nat.le_of_lt t1.1)]
  have e2 : V (R w 0) = sv (decide (w < 0)) (mag (rung v.natAbs 0) * 2 ^ k) := by
   rw [V_R, Nat.min_eq_left (Nat.le_of_lt t2.1), hwa, rung_mul hbig]
  refine ⟨⟨R_nm t1.1, ?_, ?_⟩, R_nm t2.1, ?_⟩
  ·rw [e1, sv_abs]; exact rung_dvd hbig hd
  ·rw [e1, sv_abs]; exact t1.2
  ·rw [e2, e1, ← sv_pow]
   have hpos : (0 : Int) < 2 ^ k := Int.pow_pos (by decide)
   have hs : decide (w < 0) = (decide (v < 0) ^^ n) := by
    rw [hw]
    have hlt : v * 2 ^ k < 0 ↔ v < 0 := ⟨fun q => by
     by_cases c : v < 0
     ·exact c
     ·have := Int.mul_nonneg (show 0 ≤ v by omega) (Int.le_of_lt hpos); omega, fun q => Int.mul_neg_of_neg_of_pos q hpos⟩
    have hne : v * 2 ^ k ≠ 0 := Int.mul_ne_zero h0 (Int.ne_of_gt hpos)
    cases n
    ·simp [hlt]
    ·have : (-1 * (v * 2 ^ k) < 0) ↔ ¬ (v < 0) := by rw [← hlt]; omega
     simp only [if_true, Bool.xor_true]
     by_cases c : v < 0
     ·rw [decide_eq_true c, decide_eq_false (fun q => this.1 q c)]; rfl
     ·rw [decide_eq_false c, decide_eq_true (this.2 c)]; rfl
   rw [hs]
   generalize mag (rung v.natAbs 0) = m
   unfold sv
   cases decide (v < 0) <;> cases n <;> simp [Int.neg_mul]
theorem nat_dvd {g : Nat} {v : Int} : 2 ^ g ∣ v.natAbs ↔ ((2 : Int) ^ g) ∣ v := by
 rw [← Int.natAbs_dvd_natAbs, show ((2 : Int) ^ g).natAbs = 2 ^ g from by rw [Int.natAbs_pow]; rfl]
theorem dvd_add' {g : Nat} {a b : Int} (h1 : 2 ^ g ∣ a.natAbs) (h2 : 2 ^ g ∣ b.natAbs) : 2 ^ g ∣ (a + b).natAbs :=
 nat_dvd.2 (Int.dvd_add (nat_dvd.1 h1) (nat_dvd.1 h2))
theorem Sc.add {n : Bool} {k g h x y x' y' : Nat} (hg : 53 ≤ g) (h1 : 52 ≤ h) (h2 : h + 1 + k ≤ 2097) (H : Sc n k g h x y) (G : Sc n k g h x' y') : Sc n k g (h + 1) (fadd x x') (fadd y y') := by
 rw [fadd_fin H.gd.nm G.gd.nm, fadd_fin H.nm G.nm]
 refine R_sc n hg (by omega) h2 (dvd_add' H.gd.dvd G.gd.dvd) ?_ (by rw [H.v, G.v]; cases n <;> simp [Int.add_mul] <;> omega)
 have := H.gd.bd; have := G.gd.bd
 rw [Nat.pow_succ]; omega
theorem Sc.neg {n : Bool} {k g h x y : Nat} (H : Sc n k g h x y) : Sc n k g h (fng x) (fng y) := by
 obtain ⟨a, b⟩ := fng_facts H.gd.nm
 obtain ⟨c, d⟩ := fng_facts H.nm
 exact ⟨⟨a, by rw [b, Int.natAbs_neg]; exact H.gd.dvd, by rw [b, Int.natAbs_neg]; exact H.gd.bd⟩, c, by rw [d, b, H.v]; cases n <;> simp [Int.neg_mul]⟩
theorem Sc.sub {n : Bool} {k g h x y x' y' : Nat} (hg : 53 ≤ g) (h1 : 52 ≤ h) (h2 : h + 1 + k ≤ 2097) (H : Sc n k g h x y) (G : Sc n k g h x' y') : Sc n k g (h + 1) (fsub x x') (fsub y y') := by
 have e : ∀ {a b : Nat}, Nm a → Nm b → fsub a b = fadd a (fng b) := fun ha hb => by
  obtain ⟨c, d⟩ := fng_facts hb
  rw [fsub_fin ha hb, fadd_fin ha c, d, Int.sub_eq_add_neg]
 rw [e H.gd.nm G.gd.nm, e H.nm G.nm]
 exact H.add hg h1 h2 G.neg
theorem Sc.mul {n : Bool} {k g g' h x y c u t : Nat} (hu : u = 1012) (ht : t = 62) (hg' : g = g' + t) (hg : 53 ≤ g') (h1 : 52 ≤ h) (h2 : h + k ≤ 2097) (H : Sc n k g h x y) (C : Nm c) (Cd : ∃ t : Int, V c = t * 2 ^ u) (Cb : (V c).natAbs ≤ 2 ^ (u + t)) :
  Sc n k g' h (fmul x c) (fmul y c) := by
 rw [fmul_fin H.gd.nm C, fmul_fin H.nm C, show 1074 = u + t from by omega]
 obtain ⟨f, hf⟩ := Cd
 have hxd := H.gd.dvd
 -- x's number is a multiple of 2^(g' + 62), so the product one of 2^1074
 obtain ⟨z, hz⟩ := nat_dvd.1 hxd
 have e1 : V x * V c = z * f * 2 ^ g' * 2 ^ (u + t) := by
  rw [hf, hz, hg', Int.pow_add, Int.pow_add]
  simp only [Int.mul_assoc, Int.mul_comm, Int.mul_left_comm]
 have e2 : V y * V c = (if n then -1 else 1) * (z * f * 2 ^ g' * 2 ^ k) * 2 ^ (u + t) := by
  rw [H.v, Int.mul_assoc, Int.mul_assoc (V x), Int.mul_comm (2 ^ k), ← Int.mul_assoc (V x), e1]
  simp only [Int.mul_assoc, Int.mul_comm, Int.mul_left_comm]
 rw [e1, e2]
 have s1 := R_scale (z * f * 2 ^ g') 0 (u + t)
 have s2 := R_scale ((if n then -1 else 1) * (z * f * 2 ^ g' * 2 ^ k)) 0 (u + t)
 rw [Nat.zero_add] at s1 s2
 rw [s1, s2]
 refine R_sc n hg h1 h2 ?_ ?_ rfl
 ·exact nat_dvd.2 ⟨z * f, Int.mul_comm _ _⟩
 ·have hb := H.gd.bd
  have hm : (V x * V c).natAbs ≤ 2 ^ h * 2 ^ (u + t) := by rw [Int.natAbs_mul]; exact Nat.mul_le_mul hb Cb
  rw [e1, Int.natAbs_mul, show ((2 : Int) ^ (u + t)).natAbs = 2 ^ (u + t) from by rw [Int.natAbs_pow]; rfl] at hm
  exact Nat.le_of_mul_le_mul_right hm (Nat.two_pow_pos _)
end W3
namespace Y2
open Ieee Go Gp Gq Gr G9 U0 W0 W1 W2 W3 M0 M1 M2 M3 M4 Pc Po Y1
structure Fc (c : Nat) : Prop where
 nm : Nm c
 dvd : ∀ u, u = 1012 → ∃ t : Int, V c = t * 2 ^ u
 bd : ∀ u, u = 1012 → (V c).natAbs ≤ 2 ^ (u + 62)
def fcB (u : Nat) (c : Nat) : Bool := nmB c && (decide ((V c).natAbs % 2 ^ u = 0) && decide ((V c).natAbs ≤ 2 ^ (u + 62)))
theorem fc_of {c : Nat} (h : ∀ u, u = 1012 → fcB u c = true) : Fc c := by
 have h1 : nmB c = true := by have := h _ rfl; unfold fcB at this; simp only [Bool.and_eq_true] at this; exact this.1
 refine ⟨nm_of h1, fun u hu => ?_, fun u hu => ?_⟩
 ·have := h u hu
  unfold fcB at this
  simp only [Bool.and_eq_true, decide_eq_true_eq] at this
  obtain ⟨t, ht⟩ := nat_dvd.1 (Nat.dvd_of_mod_eq_zero this.2.1)
  exact ⟨t, by rw [ht, Int.mul_comm]⟩
 ·have := h u hu
  unfold fcB at this
  simp only [Bool.and_eq_true, decide_eq_true_eq] at this
  exact this.2.2
def tabFc (u p : Nat) : Bool := (List.range (2 ^ (p - 1))).all fun j => fcB u (tabW p j).1 && fcB u (tabW p j).2
def c1012 : Nat := 1012
theorem tab_fcB : ∀ p : Fin 10, tabFc c1012 p.val = true := by decide +kernel
theorem tab_fc {p k : Nat} (hp : p ≤ 9) (hk : k < 2 ^ (p - 1)) : Fc (tabW p k).1 ∧ Fc (tabW p k).2 := by
 have h := tab_fcB ⟨p, by omega⟩
 unfold tabFc at h
 simp only [List.all_eq_true, List.mem_range, Bool.and_eq_true] at h
 exact ⟨fc_of fun u hu => by rw [hu]; exact (h k hk).1, fc_of fun u hu => by rw [hu]; exact (h k hk).2⟩
theorem half_fcB : fcB c1012 halfW = true := by decide +kernel
theorem half_fc : Fc halfW := fc_of fun u hu => by rw [hu]; exact half_fcB
section
variable {n : Bool} {k g h x y x' y' c : Nat}
set_option exponentiation.threshold 3000 in
theorem sc_mul {g' : Nat} (hg' : g = g' + 62) (hg : 53 ≤ g') (h1 : 52 ≤ h) (h2 : h + k ≤ 2097) (H : Sc n k g h x y) (C : Fc c) : Sc n k g' h (fmul x c) (fmul y c) :=
 Sc.mul rfl rfl hg' hg h1 h2 H C.nm (C.dvd _ rfl) (C.bd _ rfl)
end
def Sc2 (n : Bool) (k g h : Nat) (a b : Nat × Nat) : Prop := Sc n k g h a.1 b.1 ∧ Sc n k g h a.2 b.2
theorem sc_turn {n : Bool} {k g g' h a b a' b' : Nat} {w : Nat × Nat} (hw : Fc w.1 ∧ Fc w.2) (hg' : g = g' + 62) (hg : 53 ≤ g') (h1 : 52 ≤ h) (h2 : h + 1 + k ≤ 2097) (H : Sc n k g h a b) (G : Sc n k g h a' b') :
  Sc2 n k g' (h + 1) (cturn opsN a a' w.1 w.2) (cturn opsN b b' w.1 w.2) :=
 ⟨(sc_mul hg' hg h1 (by omega) H hw.1).add hg h1 h2 (sc_mul hg' hg h1 (by omega) G hw.2), (sc_mul hg' hg h1 (by omega) G hw.1).sub hg h1 h2 (sc_mul hg' hg h1 (by omega) H hw.2)⟩
theorem sc_tw1 {n : Bool} {k g g' h i a b a' b' : Nat} {tw : Nat → Nat × Nat} (hw : Fc (tw i).1 ∧ Fc (tw i).2) (hg' : g = g' + 62) (hg : 53 ≤ g') (h1 : 52 ≤ h) (h2 : h + 1 + k ≤ 2097) (H : Sc n k g h a b) (G : Sc n k g h a' b') :
  Sc2 n k g' (h + 1) (tw1 opsN tw i a a') (tw1 opsN tw i b b') := by
 unfold tw1
 split
 ·exact ⟨H.mono (by omega) (by omega), G.mono (by omega) (by omega)⟩
 ·exact sc_turn hw hg' hg h1 h2 H G
theorem sc_merge {n : Bool} {k g g' h i : Nat} {tw : Nat → Nat × Nat} (hw : Fc (tw i).1 ∧ Fc (tw i).2) (hg' : g = g' + 62) (hg : 53 ≤ g') (h1 : 52 ≤ h) (h2 : h + 2 + k ≤ 2097) {e e' o o' : Nat × Nat} (H : Sc2 n k g h e e') (G : Sc2 n k g h o o') :
  Sc2 n k g' (h + 2) (cadd opsN e.1 e.2 (tw1 opsN tw i o.1 o.2).1 (tw1 opsN tw i o.1 o.2).2) (cadd opsN e'.1 e'.2 (tw1 opsN tw i o'.1 o'.2).1 (tw1 opsN tw i o'.1 o'.2).2) ∧
  Sc2 n k g' (h + 2) (csub opsN e.1 e.2 (tw1 opsN tw i o.1 o.2).1 (tw1 opsN tw i o.1 o.2).2) (csub opsN e'.1 e'.2 (tw1 opsN tw i o'.1 o'.2).1 (tw1 opsN tw i o'.1 o'.2).2) := by
 have T := sc_tw1 (i := i) (tw := tw) hw hg' hg h1 (by omega) G.1 G.2
 have E1 := H.1.mono (show g' ≤ g by omega) (show h ≤ h + 1 by omega)
 have E2 := H.2.mono (show g' ≤ g by omega) (show h ≤ h + 1 by omega)
 exact ⟨⟨E1.add hg (by omega) (by omega) T.1, E2.add hg (by omega) (by omega) T.2⟩, ⟨E1.sub hg (by omega) (by omega) T.1, E2.sub hg (by omega) (by omega) T.2⟩⟩
def ScL (n : Bool) (k g h : Nat) (X Y : List Nat) : Prop := X.length = Y.length ∧ ∀ i, i < X.length → Sc n k g h (nthN X i) (nthN Y i)
theorem ScL.mono {n : Bool} {k g h g' h' : Nat} {X Y : List Nat} (H : ScL n k g h X Y) (a : g' ≤ g) (b : h ≤ h') : ScL n k g' h' X Y := ⟨H.1, fun i hi => (H.2 i hi).mono a b⟩
theorem into_sc {n : Bool} {k g h p : Nat} (hp : p ≤ 7) {X Y X' Y' : List Nat} (h1 : X.length = 2 ^ p) (h2 : Y.length = 2 ^ p) (hg : 53 + 62 * p ≤ g) (hh : 52 ≤ h) (h3 : h + 2 * p + k ≤ 2097) (HX : ScL n k g h X X') (HY : ScL n k g h Y Y') :
  ScL n k (g - 62 * p) (h + 2 * p) (intoN p (X, Y)).1 (intoN p (X', Y')).1 ∧ ScL n k (g - 62 * p) (h + 2 * p) (intoN p (X, Y)).2 (intoN p (X', Y')).2 := by
 have l1 : X'.length = 2 ^ p := by rw [← HX.1, h1]
 have l2 : Y'.length = 2 ^ p := by rw [← HY.1, h2]
 obtain ⟨e1, e2⟩ := intoN_len (st := (X, Y)) h1 h2
 obtain ⟨e3, e4⟩ := intoN_len (st := (X', Y')) l1 l2
 have key : ∀ i, i < 2 ^ p → Sc2 n k (g - 62 * p) (h + 2 * p) (nthG opsN (intoN p (X, Y)).1 i, nthG opsN (intoN p (X, Y)).2 i) (nthG opsN (intoN p (X', Y')).1 i, nthG opsN (intoN p (X', Y')).2 i) := by
  unfold intoN
  rw [into_rec opsN (tabW p) (twp p) hp (fun _ _ _ _ => rfl) _ h1 h2, into_rec opsN (tabW p) (twp p) hp (fun _ _ _ _ => rfl) _ l1 l2]
  refine rec_rel opsN opsN (fun q e e' => Sc2 n k (g - 62 * q) (h + 2 * q) e e') (twp p) (twp p) (P := p) (fun q i e o e' o' hq hi E O => ?_) p (Nat.le_refl p) (X, Y) (X', Y') h1 h2 l1 l2 (fun i hi => ⟨HX.2 i (by rw [h1]; exact hi), HY.2 i (by rw [h2]; exact hi)⟩)
  have hlt : i * 2 ^ (p - (q + 1)) < 2 ^ (p - 1) := by
   have := Nat.mul_lt_mul_of_pos_right hi (Nat.two_pow_pos (p - (q + 1)))
   rw [← Nat.pow_add, show q + (p - (q + 1)) = p - 1 by omega] at this
   exact this
  have M := sc_merge (tw := twp p q) (i := i) (g' := g - 62 * (q + 1)) (tab_fc (by omega) hlt) (by omega) (by omega) (by omega) (by omega) E O
  rw [show h + 2 * (q + 1) = h + 2 * q + 2 by omega]
  exact M
 exact ⟨⟨by rw [e1, e3], fun i hi => (key i (by rw [← e1]; exact hi)).1⟩, ⟨by rw [e2, e4], fun i hi => (key i (by rw [← e2]; exact hi)).2⟩⟩
theorem sc_bin {n : Bool} {k g g' h x0 x1 x2 x3 y0 y1 y2 y3 : Nat} {w : Nat × Nat} (hw : Fc w.1 ∧ Fc w.2) (hg' : g = g' + 124) (hg : 53 ≤ g') (h1 : 52 ≤ h) (h2 : h + 3 + k ≤ 2097)
  (H0 : Sc n k g h x0 y0) (H1 : Sc n k g h x1 y1) (H2 : Sc n k g h x2 y2) (H3 : Sc n k g h x3 y3) : Sc2 n k g' (h + 3) (binG opsN w x0 x1 x2 x3) (binG opsN w y0 y1 y2 y3) := by
 have hf : ∀ {a b}, Sc n k g (h + 1) a b → Sc n k (g' + 62) (h + 1) (fmul a halfW) (fmul b halfW) := fun H => sc_mul (by omega) (by omega) (by omega) (by omega) H half_fc
 have A := hf (H0.add (by omega) h1 (by omega) H2)
 have C := hf (H1.add (by omega) h1 (by omega) H3.neg)
 have D := hf (H1.add (by omega) h1 (by omega) H3)
 have B := hf (H0.neg.add (by omega) h1 (by omega) H2)
 have T := sc_turn hw (g' := g') rfl hg (by omega) (by omega) D B
 have A1 := A.mono (show g' ≤ g' + 62 by omega) (show h + 1 ≤ h + 1 + 1 by omega)
 have C1 := C.mono (show g' ≤ g' + 62 by omega) (show h + 1 ≤ h + 1 + 1 by omega)
 exact ⟨A1.add hg (by omega) (by omega) T.1, C1.add hg (by omega) (by omega) T.2⟩
theorem even_sc {n : Bool} {k g h : Nat} {X Y : List Nat} (H : ScL n k g h X Y) : ScL n k g h (evenG opsN X) (evenG opsN Y) :=
 ⟨by rw [evenG_len, evenG_len, H.1], fun i hi => by
  rw [evenG_len] at hi
  show Sc n k g h (nthG opsN _ i) (nthG opsN _ i)
  rw [nthG_even _ _ hi, nthG_even _ _ (by rw [← H.1]; exact hi)]; exact H.2 _ (by omega)⟩
theorem odd_sc {n : Bool} {k g h : Nat} {X Y : List Nat} (H : ScL n k g h X Y) : ScL n k g h (oddG opsN X) (oddG opsN Y) :=
 ⟨by rw [oddG_len, oddG_len, H.1], fun i hi => by
  rw [oddG_len] at hi
  show Sc n k g h (nthG opsN _ i) (nthG opsN _ i)
  rw [nthG_odd _ _ hi, nthG_odd _ _ (by rw [← H.1]; exact hi)]; exact H.2 _ (by omega)⟩
theorem rfft_sc {n : Bool} {k g h p : Nat} (h0 : 1 ≤ p) (hp : p ≤ 7) {X Y : List Nat} (h1 : X.length = 2 ^ p) (hg : 53 + 62 * p + 62 ≤ g) (hh : 52 ≤ h) (h3 : h + 2 * p + 1 + k ≤ 2097) (H : ScL n k g h X Y) :
  ScL n k (g - 62 * p - 62) (h + 2 * p + 1) (rfftN p X) (rfftN p Y) := by
 refine ⟨by rw [rfftN_len, rfftN_len], fun i hi => ?_⟩
 rw [rfftN_len] at hi
 have hm : 0 < 2 ^ (p - 1) := Nat.two_pow_pos _
 have hp2 := two_half h0
 obtain ⟨Z1, Z2⟩ := into_sc (p := p - 1) (by omega) (by rw [evenG_len, h1]; omega) (by rw [oddG_len, h1]; omega) (by omega) hh (by omega) (even_sc H) (odd_sc H)
 obtain ⟨l1, l2⟩ := intoN_len (p := p - 1) (st := (evenG opsN X, oddG opsN X)) (by show (evenG opsN X).length = _; rw [evenG_len, h1]; omega) (by show (oddG opsN X).length = _; rw [oddG_len, h1]; omega)
 have z1 : ∀ j, j < 2 ^ (p - 1) → Sc n k (g - 62 * (p - 1)) (h + 2 * (p - 1)) (nthG opsN (rfftZ p X).1 j) (nthG opsN (rfftZ p Y).1 j) := fun j hj => Z1.2 j (by rw [l1]; exact hj)
 have z2 : ∀ j, j < 2 ^ (p - 1) → Sc n k (g - 62 * (p - 1)) (h + 2 * (p - 1)) (nthG opsN (rfftZ p X).2 j) (nthG opsN (rfftZ p Y).2 j) := fun j hj => Z2.2 j (by rw [l2]; exact hj)
 rw [rfftN_at _ _ hi, rfftN_at _ _ hi]
 unfold packAt
 split
 ·exact ((z1 0 hm).add (by omega) (by omega) (by omega) (z2 0 hm)).mono (by omega) (by omega)
 ·split
  ·exact ((z1 0 hm).sub (by omega) (by omega) (by omega) (z2 0 hm)).mono (by omega) (by omega)
  ·have B := sc_bin (w := tabW p (i / 2)) (g' := g - 62 * p - 62) (tab_fc (by omega) (by omega)) (by omega) (by omega) (by omega) (by omega) (z1 (i / 2) (by omega)) (z2 (i / 2) (by omega)) (z1 (2 ^ (p - 1) - i / 2) (by omega)) (z2 (2 ^ (p - 1) - i / 2) (by omega))
   rw [show h + 2 * p + 1 = h + 2 * (p - 1) + 3 by omega]
   split
   ·exact B.1
   ·exact B.2
theorem mag_dvd {r e : Nat} (h : P2 (e + 1) ≤ r) : 2 ^ e ∣ mag r := by
 have hb : 0 < bn := by decide
 unfold P2 at h
 have h1 : ¬ r < bn := by
  have : bn ≤ (e + 1) * bn := Nat.le_mul_of_pos_left _ (by omega)
  omega
 unfold mag
 rw [if_neg h1]
 have : e ≤ r / bn - 1 := by
  have := (Nat.le_div_iff_mul_le hb).2 h
  omega
 exact Nat.dvd_trans (Nat.pow_dvd_pow 2 this) (Nat.dvd_mul_left _ _)
def Tm (x : Nat) : Prop := Nm x ∧ (x = 0 ∨ (P2 983 ≤ frung x ∧ frung x ≤ P2 1063))
set_option exponentiation.threshold 3000 in
theorem tm_gd {x g h : Nat} (hg : g = 982) (hh : h = 1114) (H : Tm x) : Gd g h x := by
 subst hg
 obtain ⟨a, rfl | ⟨b, c⟩⟩ := H
 ·exact gd_zero _ _
 ·refine ⟨a, by rw [V_abs]; exact mag_dvd b, ?_⟩
  rw [V_abs]
  have := mag_le.2 c
  rw [mag_P2 (c := 1062) rfl (by decide)] at this
  rw [hh]; exact this
theorem V_fng_P2 {e c : Nat} (hc : c = e + 51) (h : 1 ≤ e) (h2 : e ≤ 2046) : Nm (fng (P2 e)) ∧ V (fng (P2 e)) = -(2 ^ c) := by
 obtain ⟨a, b⟩ := fng_facts (P2_facts h h2).1
 exact ⟨a, by rw [b, V_P2 hc h h2]⟩
def facW (up : Bool) : Nat := if up then P2 1064 else fng (P2 990)
def ScU (up : Bool) (g h x y : Nat) : Prop := if up then Sc false 41 g h x y else Sc true 33 g h y x
theorem fac_to {up : Bool} {x g h : Nat} (hg : g = 949) (hh : h = 1114) (H : Tm x) : ScU up g h x (fmul x (facW up)) := by
 have G := tm_gd (g := g + 33) (h := h) (by omega) hh H
 have hx := R_self G.nm
 cases up with
 | true =>
  have e := fmul_up (x := x) (p := 41) G.nm (by decide)
  show Sc false 41 g h x (fmul x (P2 1064))
  rw [e]
  have := R_sc false (v := V x) (w := V x * 2 ^ 41) (k := 41) (g := g) (h := h) (by omega) (by omega) (by omega) (Nat.dvd_trans (Nat.pow_dvd_pow 2 (by omega)) G.dvd) G.bd (by simp)
  rw [hx] at this; exact this
 | false =>
  show Sc true 33 g h (fmul x (fng (P2 990))) x
  obtain ⟨a, b⟩ := V_fng_P2 (e := 990) (c := 1041) rfl (by decide) (by decide)
  rw [fmul_fin G.nm a, b]
  obtain ⟨z, hz⟩ := nat_dvd.1 G.dvd
  have e1 : V x * -(2 ^ 1041) = -(z * 2 ^ g) * 2 ^ 1074 := by
   rw [hz, show (1074 : Nat) = 33 + 1041 from rfl, Int.pow_add, Int.pow_add, Int.mul_neg, Int.neg_mul]
   simp only [Int.mul_assoc, Int.mul_comm, Int.mul_left_comm]
  rw [e1]
  have s1 := R_scale (-(z * 2 ^ g)) 0 1074
  rw [Nat.zero_add] at s1
  rw [s1]
  have e2 : V x = -1 * (-(z * 2 ^ g) * 2 ^ 33) := by
   rw [hz, Int.pow_add]
   simp only [Int.neg_mul, Int.one_mul, Int.neg_neg, Int.mul_assoc, Int.mul_comm, Int.mul_left_comm]
  have hbd : (-(z * 2 ^ g)).natAbs ≤ 2 ^ h := by
   have h1 := G.bd
   rw [e2, Int.natAbs_mul, Int.natAbs_mul] at h1
   have : (-(z * 2 ^ g)).natAbs ≤ (-(z * 2 ^ g)).natAbs * ((2 : Int) ^ 33).natAbs := Nat.le_mul_of_pos_right _ (by decide)
   have h2 : ((-1 : Int)).natAbs = 1 := rfl
   rw [h2, Nat.one_mul] at h1
   exact Nat.le_trans this h1
  have := R_sc true (v := -(z * 2 ^ g)) (w := V x) (k := 33) (g := g) (h := h) (by omega) (by omega) (by omega) (nat_dvd.2 ⟨-z, by rw [Int.mul_neg, Int.mul_comm]⟩) hbd (by rw [if_pos rfl]; exact e2)
  rw [hx] at this; exact this
theorem fac_back {up : Bool} {x y g h : Nat} (H : ScU up g h x y) : fmul x (facW up) = y := by
 cases up with
 | true =>
  have H : Sc false 41 g h x y := H
  show fmul x (P2 1064) = y
  rw [fmul_up (x := x) (p := 41) H.gd.nm (by decide)]
  have e : V x * 2 ^ 41 = V y := by have := H.v; simp at this; exact this.symm
  rw [e, R_self H.nm]
 | false =>
  have H : Sc true 33 g h y x := H
  show fmul x (fng (P2 990)) = y
  obtain ⟨a, b⟩ := V_fng_P2 (e := 990) (c := 1041) rfl (by decide) (by decide)
  rw [fmul_fin H.nm a, b]
  have e1 : V x * -(2 ^ 1041) = V y * 2 ^ 1074 := by
   rw [H.v, if_pos rfl, show (1074 : Nat) = 33 + 1041 from rfl, Int.pow_add]
   simp only [Int.neg_mul, Int.mul_neg, Int.neg_neg, Int.one_mul, Int.mul_assoc]
  rw [e1]
  have s1 := R_scale (V y) 0 1074
  rw [Nat.zero_add] at s1
  rw [s1, R_self H.gd.nm]
def ScLU (up : Bool) (g h : Nat) (X Y : List Nat) : Prop := if up then ScL false 41 g h X Y else ScL true 33 g h Y X
theorem scale_to {up : Bool} {X : List Nat} {g h : Nat} (hg : g = 949) (hh : h = 1114) (H : ∀ x ∈ X, Tm x) : ScLU up g h X (X.map fun x => fmul x (facW up)) := by
 have key : ∀ i, i < X.length → ScU up g h (nthN X i) (nthN (X.map fun x => fmul x (facW up)) i) := fun i hi => by
  have := fac_to (up := up) hg hh (H X[i] (List.getElem_mem hi))
  rw [nthN_lt hi, nthN_lt (by simpa using hi)]; simpa using this
 cases up with
 | true => exact ⟨by simp, key⟩
 | false => exact ⟨by simp, fun i hi => key i (by simpa using hi)⟩
theorem scale_back {up : Bool} {X Y : List Nat} {g h : Nat} (H : ScLU up g h X Y) : X.map (fun x => fmul x (facW up)) = Y := by
 have hl : X.length = Y.length := by cases up <;> first | exact H.1 | exact H.1.symm
 have key : ∀ i, i < X.length → ScU up g h (nthN X i) (nthN Y i) := fun i hi => by
  cases up with
  | true => exact H.2 i hi
  | false => exact H.2 i (by rw [← hl]; exact hi)
 apply List.ext_getElem (by simpa using hl)
 intro i h1 h2
 have := fac_back (key i (by simpa using h1))
 rw [nthN_lt (by simpa using h1), nthN_lt h2] at this
 simpa using this
theorem rfft_scale {up : Bool} {p : Nat} {X : List Nat} (h0 : 1 ≤ p) (hp : p ≤ 6) (h1 : X.length = 2 ^ p) (H : ∀ x ∈ X, Tm x) : rfftN p (X.map fun x => fmul x (facW up)) = (rfftN p X).map fun x => fmul x (facW up) := by
 have S := scale_to (up := up) rfl rfl H
 symm
 refine scale_back (up := up) (g := 949 - 62 * p - 62) (h := 1114 + 2 * p + 1) ?_
 cases up with
 | true => exact rfft_sc h0 (by omega) h1 (by omega) (by omega) (by omega) S
 | false => exact rfft_sc h0 (by omega) (by rw [List.length_map]; exact h1) (by omega) (by omega) (by omega) S
end Y2
namespace Y9
open Ieee Go Go.RowKit Go.Proofs Go.Proofs.YtnbdoidccacdnaaGreatDoor Ow Gp Gq Gr G1 G3 I0 W0 W1 W2 P0 Po Y2 Y3 W5
open Go.Proofs.YtnbdoidccacdnaaGreatDoor.Pq (ord_c ge_c le_c)
open Go.Proofs.YtnbdoidccacdnaaGreatDoor.Pg (In)
attribute [local go_sem ↓] Go.wp_at_zero Go.wp_at_succ
theorem tm_mid {r : Nat} (h : r < 2 * sgnW) (hf : frung r ≤ infR) (hm : V r = 0 ∨ (mag (P2 983) ≤ (V r).natAbs ∧ (V r).natAbs ≤ mag (P2 1063))) : Tm (cn r) := by
 have hb : infR = 2047 * bn := by decide
 rcases hm with h0 | ⟨h1, h2⟩
 ·have e : frung r = 0 := by
   have := V_abs r
   rw [h0] at this
   exact mag_inj (by rw [← this, mag_zero]; rfl)
  have : cn r = 0 := by unfold cn; rw [if_neg (by omega), if_pos e]
  rw [this]
  exact ⟨nm_zero, .inl rfl⟩
 ·rw [V_abs, mag_le] at h1 h2
  have q1 := h1
  have q2 := h2
  unfold P2 at h1 h2
  have hpos : 0 < bn := by decide
  have hlt : frung r < infR := by omega
  have e : cn r = r := by unfold cn; rw [if_neg (by omega), if_neg (by omega)]
  rw [e]
  exact ⟨⟨h, hlt, e⟩, .inr ⟨q1, q2⟩⟩
theorem V_c1 : V 4427038433705197568 = (mag (P2 983) : Int) := by decide +kernel
theorem V_c2 : V 4787326403894837248 = (mag (P2 1063) : Int) := by decide +kernel
theorem V_c3 : V 13650410470559973376 = -(mag (P2 983) : Int) := by decide +kernel
theorem V_c4 : V 14010698440749613056 = -(mag (P2 1063) : Int) := by decide +kernel
theorem pass0 {r : Nat} (h : r < 2 * sgnW) (e : (FloatKind.f64.format.order r 0 == some .eq) = true) : Tm (cn r) := by
 obtain ⟨a, b⟩ := ord_c (c := 0) (v := 0) h (by decide) (by decide) (by decide) (by cases q : FloatKind.f64.format.order r 0 <;> simp_all)
 refine tm_mid h a (.inl ?_)
 rw [b, cmp_int] at e
 split at e
 ·simp at e
 ·split at e
  ·assumption
  ·simp at e
theorem pass1 {r : Nat} (h : r < 2 * sgnW) (e1 : (FloatKind.f64.format.order r 4427038433705197568 == some .gt || FloatKind.f64.format.order r 4427038433705197568 == some .eq) = true) (e2 : (FloatKind.f64.format.order r 4787326403894837248 == some .lt || FloatKind.f64.format.order r 4787326403894837248 == some .eq) = true) : Tm (cn r) := by
 obtain ⟨a, b⟩ := ge_c h (by decide) (by decide) V_c1 e1
 obtain ⟨_, b2⟩ := le_c h (by decide) (by decide) V_c2 e2
 exact tm_mid h a (.inr ⟨by omega, by omega⟩)
theorem pass2 {r : Nat} (h : r < 2 * sgnW) (e1 : (FloatKind.f64.format.order r 13650410470559973376 == some .lt || FloatKind.f64.format.order r 13650410470559973376 == some .eq) = true) (e2 : (FloatKind.f64.format.order r 14010698440749613056 == some .gt || FloatKind.f64.format.order r 14010698440749613056 == some .eq) = true) : Tm (cn r) := by
 obtain ⟨a, b⟩ := le_c h (by decide) (by decide) V_c3 e1
 obtain ⟨_, b2⟩ := ge_c h (by decide) (by decide) V_c4 e2
 exact tm_mid h a (.inr ⟨by omega, by omega⟩)
theorem dTame {A : Option Addr} {n c : Nat} {X : List Nat} (W0 : World) (hx : Fr W0 A X) (hn : X.length = n) (hl : n ≤ 100000) :
  Calls Tryz.prog 47 #[.slice A n c] W0 (fun e w' => ∃ z, e = .returned (.bool z) ∧ Bel W0 w' ∧ (z = true → ∀ i, i < n → Tm (nthN X i))) := by
 have FX := Ho.mk hx
 have HN := Ho.mk hn
 clear hx hn
 go_enter Tryz.func47, Tryz.ntmps47
 go_wp2_with fail
 go_loopw [3] (fun v wr => ∃ (i : Nat), i ≤ n ∧ v = .int .i64 i ∧ Ho (∀ j, j < i → Tm (nthN X j)) ∧ Ho (Bel W0 wr)) (fun v _ => n - (intOf v).toNat)
 case atStart => exact ⟨0, Nat.zero_le _, rfl, ⟨fun j hj => absurd hj (Nat.not_lt_zero _)⟩, ⟨Bel.refl _⟩⟩
 case round =>
  obtain ⟨i, hi, rfl, HT, HW⟩ := hrel
  rcases Nat.lt_or_ge i n with hlt | hge
  ·obtain ⟨a1, r, rfl, y1, l1, c1⟩ := FX.out.at_ (i := i) (by rw [HN.out]; exact hlt)
   have y1 := HW.out.cell y1
   have L1 := Ho.mk l1
   have C1 := Ho.mk c1
   clear l1 c1
   cases h0 : (FloatKind.f64.format.order r 0 == some .eq) with
   | true =>
    have UP := Ho.mk (pass0 L1.out h0)
    go_wp2
    go_roundw
    case rel => exact ⟨i + 1, by omega, by simp, ⟨fun j hj => by rcases Nat.lt_or_ge j i with l | l; exact HT.out j l; rw [show j = i by omega, ← C1.out]; exact UP.out⟩, HW⟩
    case measure => simp [intOf]; omega
   | false =>
    cases h1 : (FloatKind.f64.format.order r 4427038433705197568 == some .gt || FloatKind.f64.format.order r 4427038433705197568 == some .eq) with
    | true =>
     cases h2 : (FloatKind.f64.format.order r 4787326403894837248 == some .lt || FloatKind.f64.format.order r 4787326403894837248 == some .eq) with
     | true =>
      have UP := Ho.mk (pass1 L1.out h1 h2)
      go_wp2
      go_roundw
      case rel => exact ⟨i + 1, by omega, by simp, ⟨fun j hj => by rcases Nat.lt_or_ge j i with l | l; exact HT.out j l; rw [show j = i by omega, ← C1.out]; exact UP.out⟩, HW⟩
      case measure => simp [intOf]; omega
     | false =>
      cases h3 : (FloatKind.f64.format.order r 13650410470559973376 == some .lt || FloatKind.f64.format.order r 13650410470559973376 == some .eq) with
      | true =>
       cases h4 : (FloatKind.f64.format.order r 14010698440749613056 == some .gt || FloatKind.f64.format.order r 14010698440749613056 == some .eq) with
       | true =>
        have UP := Ho.mk (pass2 L1.out h3 h4)
        go_wp2
        go_roundw
        case rel => exact ⟨i + 1, by omega, by simp, ⟨fun j hj => by rcases Nat.lt_or_ge j i with l | l; exact HT.out j l; rw [show j = i by omega, ← C1.out]; exact UP.out⟩, HW⟩
        case measure => simp [intOf]; omega
       | false =>
        go_wp2
        go_ret
        exact ⟨false, rfl, HW.out, fun e => by cases e⟩
      | false =>
       go_wp2
       go_ret
       exact ⟨false, rfl, HW.out, fun e => by cases e⟩
    | false =>
     cases h3 : (FloatKind.f64.format.order r 13650410470559973376 == some .lt || FloatKind.f64.format.order r 13650410470559973376 == some .eq) with
     | true =>
      cases h4 : (FloatKind.f64.format.order r 14010698440749613056 == some .gt || FloatKind.f64.format.order r 14010698440749613056 == some .eq) with
      | true =>
       have UP := Ho.mk (pass2 L1.out h3 h4)
       go_wp2
       go_roundw
       case rel => exact ⟨i + 1, by omega, by simp, ⟨fun j hj => by rcases Nat.lt_or_ge j i with l | l; exact HT.out j l; rw [show j = i by omega, ← C1.out]; exact UP.out⟩, HW⟩
       case measure => simp [intOf]; omega
      | false =>
       go_wp2
       go_ret
       exact ⟨false, rfl, HW.out, fun e => by cases e⟩
     | false =>
      go_wp2
      go_ret
      exact ⟨false, rfl, HW.out, fun e => by cases e⟩
  ·obtain rfl : i = n := by omega
   go_wp2
   go_ret
   exact ⟨true, rfl, HW.out, fun _ => HT.out⟩
def scl (q : Nat) (X : List Nat) : List Nat := X.map fun x => fmul x q
theorem scl_len (q : Nat) (X : List Nat) : (scl q X).length = X.length := by simp [scl]
theorem dScaled {A : Option Addr} {n c q : Nat} {X : List Nat} (w : World) (hx : In w (.slice A n c) X) (hn : X.length = n) (hl : n ≤ 1000) (hq : q < 2 * sgnW) :
  Calls Tryz.prog 48 #[.slice A n c, .float .f64 q] w (MakesF w (scl (cn q) X)) := by
 obtain ⟨A1, c1, e, _, _, hfr, _⟩ := hx.out
 simp only [Value.slice.injEq] at e
 obtain ⟨rfl, e2, e3⟩ := e
 clear e2 e3
 have FX := Ho.mk hfr
 have HN := Ho.mk hn
 have MU := Ho.mk (fun (a : Nat) (h : a < 2 * sgnW) (w : World) => run_fmul (P := Tryz.prog) 50 h hq w)
 clear hx hn hfr hq
 go_enter Tryz.func48, Tryz.ntmps48
 go_wp2_with fail
 go_loopw [5, 6] (fun u v wr => ∃ (i : Nat) (B : Option Addr) (d : Nat), i ≤ n ∧ v = .int .i64 i ∧ u = .slice B i d ∧ Ho (Og wr (.slice B i d) (scl (cn q) (X.take i))) ∧ Ho (∀ g, (Value.slice B i d).ownBlock = some g → w.heap.size ≤ g) ∧ Ho (Bel w wr)) (fun _ v _ => n - (intOf v).toNat)
 case atStart => exact ⟨0, none, 0, Nat.zero_le _, rfl, rfl, ⟨Og.nil _⟩, ⟨fun g hg => by cases hg⟩, ⟨Bel.refl _⟩⟩
 case round =>
  obtain ⟨i, B, d, hi, rfl, rfl, HO, HG, HB⟩ := hrel
  rcases Nat.lt_or_ge i n with hlt | hge
  ·obtain ⟨a1, r, rfl, y1, l1, c1⟩ := FX.out.at_ (i := i) (by rw [HN.out]; exact hlt)
   have y1 := HB.out.cell y1
   have C1 := Ho.mk c1
   obtain ⟨p, wm, hm, hb, pl, pc⟩ := MU.out r l1 wr
   have PC := Ho.mk (And.intro pl pc)
   have BM := Ho.mk (drew_bel wr hb)
   have OM := Ho.mk (HO.out.bel BM.out)
   have hZ : scl (cn q) (X.take (i + 1)) = scl (cn q) (X.take i) ++ [cn p] := by
    have hlt2 : i < X.length := by rw [HN.out]; exact hlt
    unfold scl
    rw [List.take_add_one, List.getElem?_eq_getElem hlt2, List.map_append, PC.out.2, C1.out, nthN_lt hlt2]; rfl
   have lZ : (scl (cn q) (X.take i)).length = i := by rw [scl_len, List.length_take, HN.out]; omega
   have lZ2 : (scl (cn q) (X.take (i + 1))).length = i + 1 := by rw [scl_len, List.length_take, HN.out]; omega
   have HL := Ho.mk (And.intro lZ (And.intro lZ2 hZ))
   have z9 := (Blk.new wm [.float .f64 p] 50).cell (i := 0) rfl
   have BA := Ho.mk ((Bel.refl wm).alloc (.cells #[.float .f64 p] 50))
   clear l1 c1 hb pl pc lZ lZ2 hZ
   go_wp2_with (at_builtin; refine wpList_appA rfl _ _ rfl (OM.out.bel BA.out) rfl rfl z9 PC.out.1 (by rw [HL.out.1]; omega) HL.out.2.2 ?_; intro tA tc w3 ho ha; rw [HL.out.2.1] at ho ha ⊢; have HO3 := Ho.mk ho; have HA3 := Ho.mk ha; clear z9 ho ha hm)
   have HB3 := Ho.mk (HA3.out.bel ((HB.out.trans BM.out).trans BA.out) HG.out)
   have HG3 := Ho.mk (fun g (hg : (Value.slice tA (i + 1) tc).ownBlock = some g) => show w.heap.size ≤ g from by
    rcases HA3.out.own with e | e
    ·rw [e] at hg; exact HG.out g hg
    ·rw [e] at hg; cases hg
     have := ((HB.out.trans BM.out).trans BA.out).size
     exact this)
   go_roundw
   case rel => exact ⟨i + 1, tA, tc, by omega, by simp, rfl, HO3, HG3, HB3⟩
   case measure => simp [intOf]; omega
  ·obtain rfl : i = n := by omega
   go_wp2
   go_ret
   have e : X.take i = X := by rw [← HN.out]; exact List.take_length
   have ho := HO.out
   rw [e] at ho
   have l : (scl (cn q) X).length = i := by rw [scl_len, HN.out]
   refine ⟨B, d, by rw [l]; rfl, ?_, HB.out⟩
   rw [l]
   exact ho.rowF HG.out
end Y9
namespace Li
open Ieee Go Go.RowKit Go.Proofs Go.Proofs.YtnbdoidccacdnaaGreatDoor Ow Dt Gp I0 U0 W0 S4 S6 P0 M0 M1 M3 W4 W5 V2 P4 Y3 Yh Y1 P8 Pc Y5 Y6 Y7 Y8 Pk Lv Pj Le Lg Y2 Y9
open Go.Proofs.YtnbdoidccacdnaaGreatDoor.V1 (NI St ni_same ni_loop St.refl St.of_bel blk_keep ni_blk put_st)
open Go.Proofs.YtnbdoidccacdnaaGreatDoor.C6 (leaveAny)
open Go.Proofs.YtnbdoidccacdnaaGreatDoor.Pg (In)
attribute [local go_sem ↓] Go.wp_at_zero Go.wp_at_succ
def wW (up : Bool) : Nat := if up then 4791830003522207744 else 13681935667951566848
theorem wW_ok (up : Bool) : wW up < 2 * sgnW ∧ cn (wW up) = facW up := by cases up <;> decide +kernel
theorem pTame {A : Option Addr} {n c : Nat} {X : List Nat} {w : World} (hx : In w (.slice A n c) X) (hl : X.length ≤ 100000) :
  Calls Tryz.prog 47 #[.slice A n c] w (fun e w' => ∃ z, e = .returned (.bool z) ∧ Bel w w' ∧ (z = true → ∀ x ∈ X, Tm x)) := by
 have hn := In.len hx
 obtain ⟨A1, c1, e, _, _, hfr, _⟩ := hx.out
 simp only [Value.slice.injEq] at e
 obtain ⟨rfl, _, _⟩ := e
 refine (dTame w hfr hn.symm (by omega)).mono ?_
 rintro e w' ⟨z, rfl, b, h⟩
 refine ⟨z, rfl, b, fun hz x hx => ?_⟩
 obtain ⟨i, hi, rfl⟩ := List.getElem_of_mem hx
 have := h hz i (by omega)
 rwa [nthN_lt hi] at this
theorem pScaled {A : Option Addr} {n c q : Nat} {X : List Nat} {w : World} (hx : In w (.slice A n c) X) (hl : X.length ≤ 1000) (hq : q < 2 * sgnW) {Z : List Nat} (h1 : Z = scl (cn q) X) :
  Calls Tryz.prog 48 #[.slice A n c, .float .f64 q] w (MakesF w Z) := by
 obtain rfl := In.len hx
 rw [h1]; exact dScaled w hx rfl hl hq
theorem rfR_scl {up : Bool} {X : List Nat} (hl : X.length ≤ 64) (H : ∀ x ∈ X, Tm x) : rfR (scl (facW up) X) = scl (facW up) (rfR X) ∧ errF (scl (facW up) X) = errF X := by
 have hL := scl_len (facW up) X
 refine ⟨?_, by unfold errF; rw [hL]⟩
 unfold rfR; rw [hL]
 cases h : okR X.length
 ·rfl
 ·obtain ⟨h1, h2, _⟩ := okR_pow h
  simp only [if_true]
  have hp : Nat.log2 X.length ≤ 6 := by
   rcases Nat.lt_or_ge (Nat.log2 X.length) 7 with q | q
   ·omega
   ·have := Nat.pow_le_pow_right (n := 2) (by omega) q
    rw [← h1] at this; omega
  exact rfft_scale h2 hp h1 H
theorem scale14L {A : Option Addr} {c n : Nat} {X : List Nat} {up : Bool} (w : World) (T : Tab w) (hx : In w (.slice A n c) X) (hX : X.length = n) (hl : 64 < n) : Calls Tryz.prog 11 #[.slice A n c, .bool up] w (fun e w' => e = .returned (.bool true) ∧ Bel w w') := by
 have TT := Ho.mk T
 have hl2 : (64 : Int) < (n : Int) := by omega
 clear T hx hX
 go_enter Tryz.func11, Tryz.ntmps11
 go_wp2_with fail
 have C1 := Ho.mk (head14 w (TT.out.bel (Bel.refl _)))
 (with_reducible refine C1.out.mono ?_); rintro e v2 ⟨rfl, b3⟩
 have b3H := Ho.mk b3
 clear C1 b3
 go_wp2
 go_ret
 exact ⟨rfl, b3H.out⟩
theorem scale14U {A : Option Addr} {c n : Nat} {X : List Nat} {up : Bool} (w : World) (T : Tab w) (hx : In w (.slice A n c) X) (hX : X.length = n) (hu : up = true) (hl : n ≤ 64) : Calls Tryz.prog 11 #[.slice A n c, .bool up] w (fun e w' => e = .returned (.bool true) ∧ Bel w w') := by
 subst hu
 have TT := Ho.mk T
 have HX := Ho.mk hx
 have HXL := Ho.mk hX
 have HQ := Ho.mk (wW_ok true)
 obtain ⟨F, hF⟩ : ∃ F, F = facW true := ⟨_, rfl⟩
 rw [← hF] at HQ
 have hl2 : ¬ (64 : Int) < (n : Int) := by omega
 have RS := Ho.mk (fun (h : ∀ x ∈ X, Tm x) => hF ▸ rfR_scl (up := true) (by omega) h)
 obtain ⟨Z1, hZ1⟩ : ∃ Z, Z = rfR X := ⟨_, rfl⟩
 obtain ⟨z1, hz1⟩ : ∃ z, z = errF X := ⟨_, rfl⟩
 obtain ⟨S1, hS1⟩ : ∃ Z, Z = scl F X := ⟨_, rfl⟩
 obtain ⟨S2, hS2⟩ : ∃ Z, Z = scl F Z1 := ⟨_, rfl⟩
 have LZ1 := Ho.mk (show Z1.length ≤ 64 by
  rw [hZ1]
  cases h : okR X.length
  ·unfold rfR; rw [h]; simp
  ·rw [rfR_len h]; omega)
 have LS1 := Ho.mk (show S1.length ≤ 64 by rw [hS1, scl_len]; omega)
 have LS2 := Ho.mk (show S2.length ≤ 64 by rw [hS2, scl_len]; exact LZ1.out)
 have E1 := Ho.mk (And.intro hZ1 (And.intro hz1 (And.intro hS1 hS2)))
 clear T hx hX hF hZ1 hz1 hS1 hS2
 go_enter Tryz.func11, Tryz.ntmps11
 go_wp2_with fail
 have C1 := Ho.mk (head14 w (TT.out.bel (Bel.refl _)))
 (with_reducible refine C1.out.mono ?_); rintro e v2 ⟨rfl, b3⟩
 have b3H := Ho.mk b3
 clear C1 b3
 go_wp2_with fail
 have C4 := Ho.mk (pTame (HX.out.bel b3H.out) (by have := HXL.out; omega))
 (with_reducible refine C4.out.mono ?_); rintro e v5 ⟨z, rfl, b6, hz⟩
 have b6H := Ho.mk b6
 clear C4 b6
 have ZH := Ho.mk hz
 clear hz
 cases z with
 | false =>
  go_wp2
  go_ret
  exact ⟨rfl, (b3H.out.trans b6H.out)⟩
 | true =>
  have E2 := Ho.mk (RS.out (ZH.out rfl))
  clear RS ZH
  have E3 := Ho.mk (show S2 = rfR S1 ∧ z1 = errF S1 by rw [E1.out.2.2.1, E1.out.2.2.2, E2.out.1, E2.out.2]; exact ⟨by rw [E1.out.1], E1.out.2.1⟩)
  have E4 := Ho.mk (show S1 = scl (cn 4791830003522207744) X ∧ S2 = scl (cn 4791830003522207744) Z1 ∧ 4791830003522207744 < 2 * sgnW from ⟨by rw [show cn 4791830003522207744 = F from HQ.out.2]; exact E1.out.2.2.1, by rw [show cn 4791830003522207744 = F from HQ.out.2]; exact E1.out.2.2.2, HQ.out.1⟩)
  clear E2
  go_wp2_with fail
  have C7 := Ho.mk (pRfft (TT.out.bel (b3H.out.trans b6H.out)) (HX.out.bel (b3H.out.trans b6H.out)) (by have := HXL.out; omega) E1.out.1 E1.out.2.1)
  (with_reducible refine C7.out.mono ?_); rintro e v8 ⟨Q1, c1, rfl, t1, b9⟩
  have b9H := Ho.mk b9
  have T1 := Ho.mk t1
  clear C7 b9 t1
  go_wp2_with fail
  have C10 := Ho.mk (pScaled (HX.out.bel ((b3H.out.trans b6H.out).trans b9H.out)) (by have := HXL.out; omega) E4.out.2.2 E4.out.1)
  (with_reducible refine C10.out.mono ?_); rintro e v11 ⟨Q2, c2, rfl, t2, b12⟩
  have b12H := Ho.mk b12
  have T2 := Ho.mk t2
  clear C10 b12 t2
  go_wp2_with fail
  have C13 := Ho.mk (pRfft (TT.out.bel (((b3H.out.trans b6H.out).trans b9H.out).trans b12H.out)) (inn T2.out (by have := LS1.out; omega)) (by have := LS1.out; omega) E3.out.1 E3.out.2)
  (with_reducible refine C13.out.mono ?_); rintro e v14 ⟨Q3, c3, rfl, t3, b15⟩
  have b15H := Ho.mk b15
  have T3 := Ho.mk t3
  clear C13 b15 t3
  go_wp2_with fail
  have C16 := Ho.mk (pScaled (inn (T1.out.bel (b12H.out.trans b15H.out)) (by have := LZ1.out; omega)) (by have := LZ1.out; omega) E4.out.2.2 E4.out.2.1)
  (with_reducible refine C16.out.mono ?_); rintro e v17 ⟨Q4, c4, rfl, t4, b18⟩
  have b18H := Ho.mk b18
  have T4 := Ho.mk t4
  clear C16 b18 t4
  go_wp2_with fail
  have C19 := Ho.mk (pSameRow (z := true) (inn T4.out (by have := LS2.out; omega)) (inn (T3.out.bel b18H.out) (by have := LS2.out; omega)) (by have := LS2.out; omega) (by have := LS2.out; omega) (by simp))
  (with_reducible refine C19.out.mono ?_); rintro e v20 ⟨rfl, b21⟩
  have b21H := Ho.mk b21
  clear C19 b21
  go_wp2
  go_ret
  exact ⟨rfl, ((((((b3H.out.trans b6H.out).trans b9H.out).trans b12H.out).trans b15H.out).trans b18H.out).trans b21H.out)⟩
theorem scale14D {A : Option Addr} {c n : Nat} {X : List Nat} {up : Bool} (w : World) (T : Tab w) (hx : In w (.slice A n c) X) (hX : X.length = n) (hu : up = false) (hl : n ≤ 64) : Calls Tryz.prog 11 #[.slice A n c, .bool up] w (fun e w' => e = .returned (.bool true) ∧ Bel w w') := by
 subst hu
 have TT := Ho.mk T
 have HX := Ho.mk hx
 have HXL := Ho.mk hX
 have HQ := Ho.mk (wW_ok false)
 obtain ⟨F, hF⟩ : ∃ F, F = facW false := ⟨_, rfl⟩
 rw [← hF] at HQ
 have hl2 : ¬ (64 : Int) < (n : Int) := by omega
 have RS := Ho.mk (fun (h : ∀ x ∈ X, Tm x) => hF ▸ rfR_scl (up := false) (by omega) h)
 obtain ⟨Z1, hZ1⟩ : ∃ Z, Z = rfR X := ⟨_, rfl⟩
 obtain ⟨z1, hz1⟩ : ∃ z, z = errF X := ⟨_, rfl⟩
 obtain ⟨S1, hS1⟩ : ∃ Z, Z = scl F X := ⟨_, rfl⟩
 obtain ⟨S2, hS2⟩ : ∃ Z, Z = scl F Z1 := ⟨_, rfl⟩
 have LZ1 := Ho.mk (show Z1.length ≤ 64 by
  rw [hZ1]
  cases h : okR X.length
  ·unfold rfR; rw [h]; simp
  ·rw [rfR_len h]; omega)
 have LS1 := Ho.mk (show S1.length ≤ 64 by rw [hS1, scl_len]; omega)
 have LS2 := Ho.mk (show S2.length ≤ 64 by rw [hS2, scl_len]; exact LZ1.out)
 have E1 := Ho.mk (And.intro hZ1 (And.intro hz1 (And.intro hS1 hS2)))
 clear T hx hX hF hZ1 hz1 hS1 hS2
 go_enter Tryz.func11, Tryz.ntmps11
 go_wp2_with fail
 have C1 := Ho.mk (head14 w (TT.out.bel (Bel.refl _)))
 (with_reducible refine C1.out.mono ?_); rintro e v2 ⟨rfl, b3⟩
 have b3H := Ho.mk b3
 clear C1 b3
 go_wp2_with fail
 have C4 := Ho.mk (pTame (HX.out.bel b3H.out) (by have := HXL.out; omega))
 (with_reducible refine C4.out.mono ?_); rintro e v5 ⟨z, rfl, b6, hz⟩
 have b6H := Ho.mk b6
 clear C4 b6
 have ZH := Ho.mk hz
 clear hz
 cases z with
 | false =>
  go_wp2
  go_ret
  exact ⟨rfl, (b3H.out.trans b6H.out)⟩
 | true =>
  have E2 := Ho.mk (RS.out (ZH.out rfl))
  clear RS ZH
  have E3 := Ho.mk (show S2 = rfR S1 ∧ z1 = errF S1 by rw [E1.out.2.2.1, E1.out.2.2.2, E2.out.1, E2.out.2]; exact ⟨by rw [E1.out.1], E1.out.2.1⟩)
  have E4 := Ho.mk (show S1 = scl (cn 13681935667951566848) X ∧ S2 = scl (cn 13681935667951566848) Z1 ∧ 13681935667951566848 < 2 * sgnW from ⟨by rw [show cn 13681935667951566848 = F from HQ.out.2]; exact E1.out.2.2.1, by rw [show cn 13681935667951566848 = F from HQ.out.2]; exact E1.out.2.2.2, HQ.out.1⟩)
  clear E2
  go_wp2_with fail
  have C7 := Ho.mk (pRfft (TT.out.bel (b3H.out.trans b6H.out)) (HX.out.bel (b3H.out.trans b6H.out)) (by have := HXL.out; omega) E1.out.1 E1.out.2.1)
  (with_reducible refine C7.out.mono ?_); rintro e v8 ⟨Q1, c1, rfl, t1, b9⟩
  have b9H := Ho.mk b9
  have T1 := Ho.mk t1
  clear C7 b9 t1
  go_wp2_with fail
  have C10 := Ho.mk (pScaled (HX.out.bel ((b3H.out.trans b6H.out).trans b9H.out)) (by have := HXL.out; omega) E4.out.2.2 E4.out.1)
  (with_reducible refine C10.out.mono ?_); rintro e v11 ⟨Q2, c2, rfl, t2, b12⟩
  have b12H := Ho.mk b12
  have T2 := Ho.mk t2
  clear C10 b12 t2
  go_wp2_with fail
  have C13 := Ho.mk (pRfft (TT.out.bel (((b3H.out.trans b6H.out).trans b9H.out).trans b12H.out)) (inn T2.out (by have := LS1.out; omega)) (by have := LS1.out; omega) E3.out.1 E3.out.2)
  (with_reducible refine C13.out.mono ?_); rintro e v14 ⟨Q3, c3, rfl, t3, b15⟩
  have b15H := Ho.mk b15
  have T3 := Ho.mk t3
  clear C13 b15 t3
  go_wp2_with fail
  have C16 := Ho.mk (pScaled (inn (T1.out.bel (b12H.out.trans b15H.out)) (by have := LZ1.out; omega)) (by have := LZ1.out; omega) E4.out.2.2 E4.out.2.1)
  (with_reducible refine C16.out.mono ?_); rintro e v17 ⟨Q4, c4, rfl, t4, b18⟩
  have b18H := Ho.mk b18
  have T4 := Ho.mk t4
  clear C16 b18 t4
  go_wp2_with fail
  have C19 := Ho.mk (pSameRow (z := true) (inn T4.out (by have := LS2.out; omega)) (inn (T3.out.bel b18H.out) (by have := LS2.out; omega)) (by have := LS2.out; omega) (by have := LS2.out; omega) (by simp))
  (with_reducible refine C19.out.mono ?_); rintro e v20 ⟨rfl, b21⟩
  have b21H := Ho.mk b21
  clear C19 b21
  go_wp2
  go_ret
  exact ⟨rfl, ((((((b3H.out.trans b6H.out).trans b9H.out).trans b12H.out).trans b15H.out).trans b18H.out).trans b21H.out)⟩
theorem scale14_door (A : Option Addr) (c : Nat) (X : List Nat) (up : Bool) (w : World) (T : Tab w) (hx : In w (.slice A X.length c) X) :
  Calls Tryz.prog 11 #[.slice A X.length c, .bool up] w (fun e w' => e = .returned (.bool true) ∧ Bel w w') := by
 by_cases hl : X.length ≤ 64
 ·cases h : up
  ·exact scale14D w T hx rfl rfl hl
  ·exact scale14U w T hx rfl rfl hl
 ·exact scale14L w T hx rfl (by omega)
end Li
end Go.Proofs.YtnbdoidccacdnaaGreatDoor
