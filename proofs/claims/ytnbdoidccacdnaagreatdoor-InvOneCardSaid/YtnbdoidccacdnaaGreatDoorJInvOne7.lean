/-
  Joined, of what this claim leans on: Pi, Pj, Pk, Pq, Lv, La, Pr, Lc, Yh, Pf, Ld.
-/
import Derived.Deep.AppendLies
import Derived.Deep.Slices
import Derived.ChangeSame
import Derived.Test.YtnbdoidccacdnaaGreatDoorJInvOne6
set_option linter.unusedVariables false
set_option linter.unusedSimpArgs false
set_option maxRecDepth 100000
set_option maxHeartbeats 16000000
namespace Go.Proofs.YtnbdoidccacdnaaGreatDoor
namespace Pi
open Ieee Go Go.RowKit Go.Proofs Go.Proofs.YtnbdoidccacdnaaGreatDoor Ow Dt Gp I0 U0 W0 S4 S6 P0 M0 M1 M2 M3 P4 P5 P6 P8 Pa Pb W4 W5 W1 W2 Pc Pe Pg Ph
attribute [local go_sem ↓] Go.wp_at_zero Go.wp_at_succ
theorem dEachTwo {A A' : Option Addr} {c c' B : Nat} {X Y : List Nat} (w : World) (tw : Two w B (.slice A X.length c) (.slice A' Y.length c') X Y) (hl : Y.length ≤ 100000) :
  Calls Tryz.prog 53 #[.slice A' Y.length c', .func (.func 54) #[] #[]] w
   fun e w' => e = .returned (.tuple #[]) ∧ Two w' B (.slice A X.length c) (.slice A' Y.length c') X (Y.map fng) ∧ Frm A A' X.length Y.length w w' := by
 by_cases hy : 0 < Y.length
 ·obtain ⟨b', c2, e2, l2, C2, f2, B2⟩ := tw.two.at_ hy
  have ne := tw.ne
  cases e2
  refine (dEachO (n := Y.length) (c := c') w f2 rfl hl).mono ?_
  rintro e w' ⟨rfl, g2, G⟩
  refine ⟨rfl, ⟨?_, ?_, fun b b2 o o2 n n2 c c2 e1 e2 h1 h2 => ne b b2 o o2 n n2 c c2 e1 e2 h1 hy⟩, frm_gr _ G hy⟩
  ·obtain ⟨A1, c1, e, l, C, d⟩ := tw.one.out
   refine ⟨A1, c1, e, l, C, ?_⟩
   rcases d with d | ⟨b, rfl, f, lb⟩
   ·exact .inl d
   ·by_cases hx : 0 < X.length
    ·exact .inr ⟨b, rfl, gr_fz G f (ne b b' 0 0 _ _ _ _ e rfl hx hy), lb⟩
    ·exact .inl (by omega)
  ·have := RowF.of g2 B2 (by rw [List.length_map]; exact l2) C2
   rwa [List.length_map] at this
 ·have h0 : Y.length = 0 := by omega
  obtain rfl := List.length_eq_zero_iff.1 h0
  refine (dEach0 w).mono ?_
  rintro e w' ⟨rfl, rfl⟩
  exact ⟨rfl, tw, frm_bel (Bel.refl _) _ _ _ _⟩
theorem dConj {A B : Option Addr} {c c' : Nat} {X Y : List Nat} (w : World) (T : Tab w) (hx : In w (.slice A X.length c) X) (hy : In w (.slice B Y.length c') Y) (hl : X.length ≤ 128) (hl' : Y.length ≤ 128) :
  Calls Tryz.prog 22 #[.agg #[.slice A X.length c, .slice B Y.length c']] w (MakesV w X (Y.map fng)) := by
 have KV := Ho.mk ((Blk.new w [.slice A X.length c, .slice B Y.length c'] 24).old (.cells #[.slice none 0 0, .slice none 0 0] 24))
 have KR := Ho.mk (Blk.new (w.alloc (.cells #[.slice A X.length c, .slice B Y.length c'] 24)) [.slice none 0 0, .slice none 0 0] 24)
 have g0 := Ho.mk (((Bel.refl w).alloc (.cells #[.slice A X.length c, .slice B Y.length c'] 24)).alloc (.cells #[.slice none 0 0, .slice none 0 0] 24))
 have TT := Ho.mk T
 rw [World.size_alloc] at KR
 clear T
 go_enter Tryz.func22, Tryz.ntmps22
 go_upto_region 1 with fail
 have hs : w.heap.size + 1 < ((w.alloc (.cells #[.slice A X.length c, .slice B Y.length c'] 24)).alloc (.cells #[.slice none 0 0, .slice none 0 0] 24)).heap.size := by simp only [World.size_alloc]; omega
 generalize (w.alloc (.cells #[.slice A X.length c, .slice B Y.length c'] 24)).alloc (.cells #[.slice none 0 0, .slice none 0 0] 24) = W at *
 obtain ⟨bR, hbR⟩ : ∃ bR, bR = w.heap.size + 1 := ⟨_, rfl⟩
 have le_bR : w.heap.size ≤ bR := by omega
 have lt_V : w.heap.size < bR := by omega
 rw [← hbR] at KR hs ⊢
 clear hbR
 have OW := Ho.mk (dOwn W (hx.bel g0.out) (hy.bel g0.out) (by omega) (by omega))
 have y0 := KV.out.cell (i := 0) rfl
 have y1 := KV.out.cell (i := 1) rfl
 clear hx hy
 go_wp2_with fail
 (with_reducible refine OW.out.mono ?_); rintro e w1 ⟨A1, c1, B1, d1, rfl, tw, b1⟩
 have TW := Ho.mk (tw.bel ((Bel.refl w1).alloc (.cells #[.slice A1 X.length c1, .slice B1 Y.length d1] 24)))
 have K4 := Ho.mk (Blk.new w1 [.slice A1 X.length c1, .slice B1 Y.length d1] 24)
 have KR := Ho.mk ((KR.out.bel b1).old (.cells #[.slice A1 X.length c1, .slice B1 Y.length d1] 24))
 have GB := Ho.mk ((g0.out.trans b1).alloc (.cells #[.slice A1 X.length c1, .slice B1 Y.length d1] 24))
 clear tw b1 KV y0 y1 OW g0
 go_upto_region 2 with fail
 generalize w1.alloc (.cells #[.slice A1 X.length c1, .slice B1 Y.length d1] 24) = w2 at *
 have y1 := K4.out.cell (i := 1) rfl
 have IN := Ho.mk (dEachTwo w2 TW.out (by omega))
 go_wp2_with fail
 (with_reducible refine IN.out.mono ?_); rintro e w3 ⟨rfl, t3, F3⟩
 have KR := Ho.mk (F3.blk TW.out KR.out (fun b _ hf => by rcases hf with hf | hf <;> exact vec_ne KR.out hf))
 have K4 := Ho.mk (F3.blk TW.out K4.out (fun b _ hf => by rcases hf with hf | hf <;> exact vec_ne K4.out hf))
 have BB := Ho.mk (F3.bel TW.out GB.out (by omega))
 have T3 := Ho.mk t3
 clear t3 F3 IN y1
 have h4 := K4.out.cell (i := 0) rfl
 have h5 := K4.out.cell (i := 1) rfl
 have x0 := KR.out.cell (i := 0) rfl
 have x1 := KR.out.cell (i := 1) rfl
 have z0 := KR.out.free 0
 have z1 := KR.out.free 1
 go_wp2
 refine bodyPost_ret (resV (fn := Tryz.f22) rfl rfl ((KR.out.set 0 _).set 1 _)) rfl ?_
 unfold MakesV
 rw [List.length_map]
 exact ⟨_, _, _, _, rfl, (((T3.out.mono (B' := bR + 1) (by omega)).far (p := ⟨bR, 0, none⟩) (by dsimp only; omega) _).far (p := ⟨bR, 1, none⟩) (by dsimp only; omega) _).mono (by omega), ⟨(BB.out.out.setCell (p := ⟨bR, 0, none⟩) (by dsimp only; omega) _).setCell (p := ⟨bR, 1, none⟩) (by dsimp only; omega) _⟩⟩
theorem dSwapV {A B : Option Addr} {c c' : Nat} {X Y : List Nat} (w : World) (hx : In w (.slice A X.length c) X) (hy : In w (.slice B Y.length c') Y) (hl : X.length ≤ 128) (hl' : Y.length ≤ 128) :
  Calls Tryz.prog 24 #[.agg #[.slice A X.length c, .slice B Y.length c']] w (MakesV w Y X) := by
 have KV := Ho.mk ((Blk.new w [.slice A X.length c, .slice B Y.length c'] 24).old (.cells #[.slice none 0 0, .slice none 0 0] 24))
 have KR := Ho.mk (Blk.new (w.alloc (.cells #[.slice A X.length c, .slice B Y.length c'] 24)) [.slice none 0 0, .slice none 0 0] 24)
 have g0 := Ho.mk (((Bel.refl w).alloc (.cells #[.slice A X.length c, .slice B Y.length c'] 24)).alloc (.cells #[.slice none 0 0, .slice none 0 0] 24))
 rw [World.size_alloc] at KR
 go_enter Tryz.func24, Tryz.ntmps24
 go_upto_region 1 with fail
 have hs : w.heap.size + 1 < ((w.alloc (.cells #[.slice A X.length c, .slice B Y.length c'] 24)).alloc (.cells #[.slice none 0 0, .slice none 0 0] 24)).heap.size := by simp only [World.size_alloc]; omega
 generalize (w.alloc (.cells #[.slice A X.length c, .slice B Y.length c'] 24)).alloc (.cells #[.slice none 0 0, .slice none 0 0] 24) = W at *
 obtain ⟨bR, hbR⟩ : ∃ bR, bR = w.heap.size + 1 := ⟨_, rfl⟩
 have le_bR : w.heap.size ≤ bR := by omega
 have lt_V : w.heap.size < bR := by omega
 rw [← hbR] at KR hs ⊢
 clear hbR
 have y0 := KV.out.cell (i := 0) rfl
 have y1 := KV.out.cell (i := 1) rfl
 have x0 := KV.out.free 0
 have x1 := KV.out.free 1
 obtain ⟨bV, hbV⟩ : ∃ bV, bV = w.heap.size := ⟨_, rfl⟩
 have lt_VR : bV < bR := by omega
 have lt_W := hs
 have le_V : w.heap.size ≤ bV := by omega
 rw [← hbV] at KV y0 y1 x0 x1 ⊢
 clear hbV hs
 go_upto_region 2 with fail
 have KV := Ho.mk ((KV.out.set 0 (.slice B Y.length c')).set 1 (.slice A X.length c))
 simp only [List.set_cons_zero, List.set_cons_succ] at KV
 have KR := Ho.mk ((KR.out.far (p := ⟨bV, 0, none⟩) (by dsimp only; omega) (.slice B Y.length c')).far (p := ⟨bV, 1, none⟩) (by dsimp only; omega) (.slice A X.length c))
 have g1 := Ho.mk (show Bel w ((W.setCell ⟨bV, 0, none⟩ (.slice B Y.length c')).setCell ⟨bV, 1, none⟩ (.slice A X.length c)) from ⟨(g0.out.out.setCell (p := ⟨bV, 0, none⟩) le_V _).setCell (p := ⟨bV, 1, none⟩) le_V _⟩)
 have lt_W : bR < ((W.setCell ⟨bV, 0, none⟩ (.slice B Y.length c')).setCell ⟨bV, 1, none⟩ (.slice A X.length c)).heap.size := by simpa [World.setCell] using lt_W
 generalize (W.setCell ⟨bV, 0, none⟩ (.slice B Y.length c')).setCell ⟨bV, 1, none⟩ (.slice A X.length c) = W2 at *
 have OW := Ho.mk (dOwn W2 (hy.bel g1.out) (hx.bel g1.out) (by omega) (by omega))
 have y0 := KV.out.cell (i := 0) rfl
 have y1 := KV.out.cell (i := 1) rfl
 clear hx hy x0 x1
 go_wp2_with fail
 (with_reducible refine OW.out.mono ?_); rintro e w1 ⟨A1, c1, B1, d1, rfl, tw, b1⟩
 have KR := Ho.mk (KR.out.bel b1)
 have BB := Ho.mk (g1.out.trans b1)
 have T3 := Ho.mk tw
 clear tw b1 OW
 have x0 := KR.out.cell (i := 0) rfl
 have x1 := KR.out.cell (i := 1) rfl
 have z0 := KR.out.free 0
 have z1 := KR.out.free 1
 go_wp2
 refine bodyPost_ret (resV (fn := Tryz.f24) rfl rfl ((KR.out.set 0 _).set 1 _)) rfl ?_
 exact ⟨_, _, _, _, rfl, (((T3.out.mono (B' := bR + 1) (by omega)).far (p := ⟨bR, 0, none⟩) (by dsimp only; omega) _).far (p := ⟨bR, 1, none⟩) (by dsimp only; omega) _).mono (by omega), ⟨(BB.out.out.setCell (p := ⟨bR, 0, none⟩) (by dsimp only; omega) _).setCell (p := ⟨bR, 1, none⟩) (by dsimp only; omega) _⟩⟩
end Pi
namespace Pj
open Ieee Go Go.RowKit Go.Proofs Go.Proofs.YtnbdoidccacdnaaGreatDoor Ow Dt Gp I0 U0 W0 S4 S6 P0 M0 M1 M2 M3 P4 P5 P6 P8 Pa Pb W4 W5 W1 W2 Pc Pe Pg Ph Go.Proofs.YtnbdoidccacdnaaGreatDoor.Pi
attribute [local go_sem ↓] Go.wp_at_zero Go.wp_at_succ
theorem Two.grow {w : World} {B c c' : Nat} {A A' : Option Addr} {X Y : List Nat} (h1 : RowF w B (.slice A X.length c) X) (h2 : RowF w B (.slice A' Y.length c') Y) (ne : ∀ b b' o o' n n' d d', (Value.slice A X.length c) = .slice (some ⟨b, o, none⟩) n d → (Value.slice A' Y.length c') = .slice (some ⟨b', o', none⟩) n' d' → 0 < X.length → 0 < Y.length → b ≠ b') :
  Two w B (.slice A X.length c) (.slice A' Y.length c') X Y := ⟨h1, h2, ne⟩
end Pj
namespace Pk
open Ieee Go Go.RowKit Go.Proofs Go.Proofs.YtnbdoidccacdnaaGreatDoor Ow Dt Gp I0 U0 W0 S4 S6 P0 M0 M1 M2 M3 P4 P5 P6 P8 Pa Pb W4 W5 W1 W2 Pc Pe Pg G1 G3 Ph Go.Proofs.YtnbdoidccacdnaaGreatDoor.Pi Pj
attribute [local go_sem ↓] Go.wp_at_zero Go.wp_at_succ
theorem take_succ_eq {X Y : List Nat} {i : Nat} (h : X.take i = Y.take i) (hx : i < X.length) (hy : i < Y.length) (e : nthN X i = nthN Y i) : X.take (i + 1) = Y.take (i + 1) := by
 rw [List.take_add_one, List.take_add_one, h, List.getElem?_eq_getElem hx, List.getElem?_eq_getElem hy]
 rw [nthN_lt hx, nthN_lt hy] at e
 rw [e]
theorem nth_ne {X Y : List Nat} {i : Nat} (h : nthN X i ≠ nthN Y i) : X ≠ Y := fun e => h (by rw [e])
theorem dSameRow {A B : Option Addr} {n m c c' : Nat} {X Y : List Nat} (W0 : World) (hx : Fr W0 A X) (hy : Fr W0 B Y) (hn : X.length = n) (hm : Y.length = m) (hl : n ≤ 100000) (hl' : m ≤ 100000) :
  Calls Tryz.prog 44 #[.slice A n c, .slice B m c'] W0 (fun e w' => e = .returned (.bool (decide (X = Y))) ∧ Bel W0 w') := by
 have FX := Ho.mk hx
 have FY := Ho.mk hy
 have HN := Ho.mk hn
 have HM := Ho.mk hm
 clear hx hy hn hm
 by_cases hnm : n = m
 ·subst hnm
  go_enter Tryz.func44, Tryz.ntmps44
  go_wp2_with fail
  go_loopw [5] (fun v wr => ∃ (i : Nat), i ≤ n ∧ v = .int .i64 i ∧ Ho (X.take i = Y.take i) ∧ Ho (Bel W0 wr)) (fun v _ => n - (intOf v).toNat)
  case atStart => exact ⟨0, Nat.zero_le _, rfl, ⟨by simp⟩, ⟨Bel.refl _⟩⟩
  case round =>
   obtain ⟨i, hi, rfl, HT, HW⟩ := hrel
   rcases Nat.lt_or_ge i n with hlt | hge
   ·obtain ⟨a1, r1, rfl, y1, l1, c1⟩ := FX.out.at_ (i := i) (by rw [HN.out]; exact hlt)
    obtain ⟨a2, r2, rfl, y2, l2, c2⟩ := FY.out.at_ (i := i) (by rw [HM.out]; exact hlt)
    have y1 := HW.out.cell y1
    have y2 := HW.out.cell y2
    have HC := Ho.mk (And.intro c1 c2)
    have HAL := Ho.mk (alike_cn l1 l2)
    clear c1 c2 l1 l2
    by_cases hc : cn r1 = cn r2
    ·have RS : Ho (∀ w, Calls Tryz.prog 93 #[.float .f64 r1, .float .f64 r2] w (Quiet w (.bool true))) := ⟨fun w => by have h := rsame_calls r1 r2 w; rw [HAL.out, decide_eq_true hc] at h; exact h⟩
     have HCC := Ho.mk hc
     clear hc
     go_upto_region 6 with fail
     refine wp_region_held_drew (S := fun w' => Bel wr w') (by kernel_rfl) (Bel.refl _).drew (fun hHeld => ?_)
     (try dsimp only at hHeld)
     generalize wr.drew = wd at *
     refine rt (i := 0) hHeld ?_
     refine rt (i := 1) hHeld ?_
     refine rt (i := 2) hHeld ?_
     refine rl (i := 3) (v := ?_) hHeld (fun w hSw => ?_) ?_
     rotate_left
     ·(have z0 := hSw.cell y1; have z1 := hSw.cell y2; go_simp; try (with_reducible rfl))
     refine rt (i := 4) hHeld ?_
     refine rt (i := 5) hHeld ?_
     refine rt (i := 6) hHeld ?_
     refine rl (i := 7) (v := ?_) hHeld (fun w hSw => ?_) ?_
     rotate_left
     ·(have z0 := hSw.cell y1; have z1 := hSw.cell y2; go_simp; try (with_reducible rfl))
     try simp only [Act.put, List.setIfInBounds_toArray, List.set_cons_zero, List.set_cons_succ]
     refine rc (i := 8) (fun K hK => ?_)
     go_simp
     go_at_call 93
     (with_reducible refine (RS.out _).mono ?_); rintro e v1 ⟨rfl, hz⟩
     have bv1 : Bel wd v1 := by rw [hz]; exact Bel.refl _
     clear hz
     try go_wp2_with fail
     refine hK.out _ _ (Bel.trans hHeld bv1) (fun hHeld => ?_)
     clear hK K
     clear bv1
     refine rt (i := 9) hHeld ?_
     try simp only [Act.put, List.setIfInBounds_toArray, List.set_cons_zero, List.set_cons_succ]
     refine wpAnyH_done (by kernel_rfl) ?_ _
     have HB := Ho.mk (HW.out.trans hHeld)
     clear hHeld
     go_wp2
     go_roundw
     case rel =>
      exact ⟨i + 1, by omega, by simp, ⟨take_succ_eq HT.out (by rw [HN.out]; exact hlt) (by rw [HM.out]; exact hlt) (by rw [← HC.out.1, ← HC.out.2]; exact HCC.out)⟩, HB⟩
     case measure => simp [intOf]; omega
    ·have RS : Ho (∀ w, Calls Tryz.prog 93 #[.float .f64 r1, .float .f64 r2] w (Quiet w (.bool false))) := ⟨fun w => by have h := rsame_calls r1 r2 w; rw [HAL.out, decide_eq_false hc] at h; exact h⟩
     have HCC := Ho.mk hc
     clear hc
     go_upto_region 6 with fail
     refine wp_region_held_drew (S := fun w' => Bel wr w') (by kernel_rfl) (Bel.refl _).drew (fun hHeld => ?_)
     (try dsimp only at hHeld)
     generalize wr.drew = wd at *
     refine rt (i := 0) hHeld ?_
     refine rt (i := 1) hHeld ?_
     refine rt (i := 2) hHeld ?_
     refine rl (i := 3) (v := ?_) hHeld (fun w hSw => ?_) ?_
     rotate_left
     ·(have z0 := hSw.cell y1; have z1 := hSw.cell y2; go_simp; try (with_reducible rfl))
     refine rt (i := 4) hHeld ?_
     refine rt (i := 5) hHeld ?_
     refine rt (i := 6) hHeld ?_
     refine rl (i := 7) (v := ?_) hHeld (fun w hSw => ?_) ?_
     rotate_left
     ·(have z0 := hSw.cell y1; have z1 := hSw.cell y2; go_simp; try (with_reducible rfl))
     try simp only [Act.put, List.setIfInBounds_toArray, List.set_cons_zero, List.set_cons_succ]
     refine rc (i := 8) (fun K hK => ?_)
     go_simp
     go_at_call 93
     (with_reducible refine (RS.out _).mono ?_); rintro e v1 ⟨rfl, hz⟩
     have bv1 : Bel wd v1 := by rw [hz]; exact Bel.refl _
     clear hz
     try go_wp2_with fail
     refine hK.out _ _ (Bel.trans hHeld bv1) (fun hHeld => ?_)
     clear hK K
     clear bv1
     refine rt (i := 9) hHeld ?_
     try simp only [Act.put, List.setIfInBounds_toArray, List.set_cons_zero, List.set_cons_succ]
     refine wpAnyH_done (by kernel_rfl) ?_ _
     have HB := Ho.mk (HW.out.trans hHeld)
     clear hHeld
     go_wp2
     go_ret
     exact ⟨by rw [decide_eq_false (nth_ne (i := i) (by rw [← HC.out.1, ← HC.out.2]; exact HCC.out))]; rfl, HB.out⟩
   ·obtain rfl : i = n := by omega
    go_wp2
    go_ret
    refine ⟨?_, HW.out⟩
    have := HT.out
    rw [List.take_of_length_le (by rw [HN.out]; exact Nat.le_refl _), List.take_of_length_le (by rw [HM.out]; exact Nat.le_refl _)] at this
    rw [decide_eq_true this]; rfl
 ·have hne : ¬ (n : Int) = (m : Int) := by omega
  go_enter Tryz.func44, Tryz.ntmps44
  go_wp2
  all_goals first
   | (exfalso; omega)
   | (go_ret; exact ⟨by rw [decide_eq_false (fun e => hnm (by rw [← HN.out, ← HM.out, e]))]; rfl, Bel.refl _⟩)
theorem dSameRowI {u v : Value} {X Y : List Nat} (w : World) (hx : In w u X) (hy : In w v Y) (hl : X.length ≤ 100000) (hl' : Y.length ≤ 100000) :
  Calls Tryz.prog 44 #[u, v] w (fun e w' => e = .returned (.bool (decide (X = Y))) ∧ Bel w w') := by
 obtain ⟨A, c, rfl, _, _, h1, _⟩ := hx.out
 obtain ⟨B, d, rfl, _, _, h2, _⟩ := hy.out
 exact dSameRow w h1 h2 rfl rfl hl hl'
theorem dSame {A1 B1 A2 B2 : Option Addr} {c1 d1 c2 d2 : Nat} {X1 Y1 X2 Y2 : List Nat} (w : World) (hx : In w (.slice A1 X1.length c1) X1) (hy : In w (.slice B1 Y1.length d1) Y1) (hx2 : In w (.slice A2 X2.length c2) X2) (hy2 : In w (.slice B2 Y2.length d2) Y2)
  (l1 : X1.length ≤ 100000) (l2 : Y1.length ≤ 100000) (l3 : X2.length ≤ 100000) (l4 : Y2.length ≤ 100000) :
  Calls Tryz.prog 21 #[.agg #[.slice A1 X1.length c1, .slice B1 Y1.length d1], .agg #[.slice A2 X2.length c2, .slice B2 Y2.length d2]] w (fun e w' => e = .returned (.bool (decide (X1 = X2 ∧ Y1 = Y2))) ∧ Bel w w') := by
 have S1 := Ho.mk (fun w' (g : Bel w w') => dSameRowI w' (hx.bel g) (hx2.bel g) l1 l3)
 have S2 := Ho.mk (fun w' (g : Bel w w') => dSameRowI w' (hy.bel g) (hy2.bel g) l2 l4)
 have KV := Ho.mk ((Blk.new w [.slice A1 X1.length c1, .slice B1 Y1.length d1] 24).old (.cells #[.slice A2 X2.length c2, .slice B2 Y2.length d2] 24))
 have KU := Ho.mk (Blk.new (w.alloc (.cells #[.slice A1 X1.length c1, .slice B1 Y1.length d1] 24)) [.slice A2 X2.length c2, .slice B2 Y2.length d2] 24)
 have g0 := Ho.mk (((Bel.refl w).alloc (.cells #[.slice A1 X1.length c1, .slice B1 Y1.length d1] 24)).alloc (.cells #[.slice A2 X2.length c2, .slice B2 Y2.length d2] 24))
 rw [World.size_alloc] at KU
 clear hx hy hx2 hy2
 go_enter Tryz.func21, Tryz.ntmps21
 go_upto_region 1 with fail
 generalize (w.alloc (.cells #[.slice A1 X1.length c1, .slice B1 Y1.length d1] 24)).alloc (.cells #[.slice A2 X2.length c2, .slice B2 Y2.length d2] 24) = W at *
 have y0 := KV.out.cell (i := 0) rfl
 have y1 := KV.out.cell (i := 1) rfl
 have y2 := KU.out.cell (i := 0) rfl
 have y3 := KU.out.cell (i := 1) rfl
 by_cases e1 : X1 = X2
 ·have d1' : decide (X1 = X2 ∧ Y1 = Y2) = decide (Y1 = Y2) := by simp [e1]
  have d2' : decide (X1 = X2) = true := decide_eq_true e1
  have D1 := Ho.mk d1'
  rw [d2'] at S1
  clear d1' d2' e1
  go_wp2_with (first | (go_at_call 44; first | ((with_reducible refine (S1.out _ g0.out).mono ?_); rintro e w1 ⟨rfl, b1⟩; have y0 := b1.cell y0; have y1 := b1.cell y1; have y2 := b1.cell y2; have y3 := b1.cell y3) | ((with_reducible refine (S2.out _ (g0.out.trans b1)).mono ?_); rintro e w2 ⟨rfl, b2⟩)) | fail)
  go_ret
  exact ⟨by rw [D1.out]; rfl, (g0.out.trans b1).trans b2⟩
 ·have d1' : decide (X1 = X2 ∧ Y1 = Y2) = false := by simp [e1]
  have d2' : decide (X1 = X2) = false := decide_eq_false e1
  have D1 := Ho.mk d1'
  rw [d2'] at S1
  clear d1' d2' e1
  go_wp2_with (go_at_call 44; (with_reducible refine (S1.out _ g0.out).mono ?_); rintro e w1 ⟨rfl, b1⟩)
  go_ret
  exact ⟨by rw [D1.out]; rfl, g0.out.trans b1⟩
end Pk
namespace Pq
open Ieee Go Go.RowKit Go.Proofs Go.Proofs.YtnbdoidccacdnaaGreatDoor Ow Gp Gq Gr G1 G3 I0 W0 W1 W2 P0 Po
attribute [local go_sem ↓] Go.wp_at_zero Go.wp_at_succ
theorem ord_c {r c : Nat} {v : Int} (h : r < 2 * sgnW) (hc : c < 2 * sgnW) (fc : frung c ≤ infR) (hv : V c = v) (hs : (FloatKind.f64.format.order r c).isSome = true) : frung r ≤ infR ∧ FloatKind.f64.format.order r c = some (compare (V r) v) := by
 by_cases q : infR < frung r
 ·rw [ord_no h hc (.inl q)] at hs; cases hs
 ·rw [← hv]; exact ⟨by omega, ord h hc (by omega) fc⟩
theorem ge_c {r c : Nat} {v : Int} (h : r < 2 * sgnW) (hc : c < 2 * sgnW) (fc : frung c ≤ infR) (hv : V c = v) (e : (FloatKind.f64.format.order r c == some .gt || FloatKind.f64.format.order r c == some .eq) = true) : frung r ≤ infR ∧ v ≤ V r := by
 obtain ⟨a, b⟩ := ord_c h hc fc hv (by cases q : FloatKind.f64.format.order r c <;> simp_all)
 refine ⟨a, ?_⟩
 rw [b, cmp_int] at e
 split at e
 ·simp at e
 ·omega
theorem le_c {r c : Nat} {v : Int} (h : r < 2 * sgnW) (hc : c < 2 * sgnW) (fc : frung c ≤ infR) (hv : V c = v) (e : (FloatKind.f64.format.order r c == some .lt || FloatKind.f64.format.order r c == some .eq) = true) : frung r ≤ infR ∧ V r ≤ v := by
 obtain ⟨a, b⟩ := ord_c h hc fc hv (by cases q : FloatKind.f64.format.order r c <;> simp_all)
 refine ⟨a, ?_⟩
 rw [b, cmp_int] at e
 split at e
 ·omega
 ·split at e
  ·omega
  ·simp at e
theorem V_c1 : V 3256102530588868608 = (mag (P2 723) : Int) := by decide +kernel
theorem V_c2 : V 5958262307011166208 = (mag (P2 1323) : Int) := by decide +kernel
theorem V_c3 : V 12479474567443644416 = -(mag (P2 723) : Int) := by decide +kernel
theorem V_c4 : V 15181634343865942016 = -(mag (P2 1323) : Int) := by decide +kernel
theorem pass0 {r : Nat} (h : r < 2 * sgnW) (e : (FloatKind.f64.format.order r 0 == some .eq) = true) : Up (cn r) 7 := by
 obtain ⟨a, b⟩ := ord_c (c := 0) (v := 0) h (by decide) (by decide) (by decide) (by cases q : FloatKind.f64.format.order r 0 <;> simp_all)
 refine up_mid h a (.inl ?_)
 rw [b, cmp_int] at e
 split at e
 ·simp at e
 ·split at e
  ·assumption
  ·simp at e
theorem pass1 {r : Nat} (h : r < 2 * sgnW) (e1 : (FloatKind.f64.format.order r 3256102530588868608 == some .gt || FloatKind.f64.format.order r 3256102530588868608 == some .eq) = true) (e2 : (FloatKind.f64.format.order r 5958262307011166208 == some .lt || FloatKind.f64.format.order r 5958262307011166208 == some .eq) = true) : Up (cn r) 7 := by
 obtain ⟨a, b⟩ := ge_c h (by decide) (by decide) V_c1 e1
 obtain ⟨_, b2⟩ := le_c h (by decide) (by decide) V_c2 e2
 exact up_mid h a (.inr ⟨by omega, by omega⟩)
theorem pass2 {r : Nat} (h : r < 2 * sgnW) (e1 : (FloatKind.f64.format.order r 12479474567443644416 == some .lt || FloatKind.f64.format.order r 12479474567443644416 == some .eq) = true) (e2 : (FloatKind.f64.format.order r 15181634343865942016 == some .gt || FloatKind.f64.format.order r 15181634343865942016 == some .eq) = true) : Up (cn r) 7 := by
 obtain ⟨a, b⟩ := le_c h (by decide) (by decide) V_c3 e1
 obtain ⟨_, b2⟩ := ge_c h (by decide) (by decide) V_c4 e2
 exact up_mid h a (.inr ⟨by omega, by omega⟩)
theorem dMid {A : Option Addr} {n c : Nat} {X : List Nat} (W0 : World) (hx : Fr W0 A X) (hn : X.length = n) (hl : n ≤ 100000) :
  Calls Tryz.prog 36 #[.slice A n c] W0 (fun e w' => ∃ z, e = .returned (.bool z) ∧ Bel W0 w' ∧ (z = true → ∀ i, i < n → Up (nthN X i) 7)) := by
 have FX := Ho.mk hx
 have HN := Ho.mk hn
 clear hx hn
 go_enter Tryz.func36, Tryz.ntmps36
 go_wp2_with fail
 go_loopw [3] (fun v wr => ∃ (i : Nat), i ≤ n ∧ v = .int .i64 i ∧ Ho (∀ j, j < i → Up (nthN X j) 7) ∧ Ho (Bel W0 wr)) (fun v _ => n - (intOf v).toNat)
 case atStart => exact ⟨0, Nat.zero_le _, rfl, ⟨fun j hj => absurd hj (Nat.not_lt_zero _)⟩, ⟨Bel.refl _⟩⟩
 case round =>
  obtain ⟨i, hi, rfl, HT, HW⟩ := hrel
  rcases Nat.lt_or_ge i n with hlt | hge
  ·obtain ⟨a1, r, rfl, y1, l1, c1⟩ := FX.out.at_ (i := i) (by rw [HN.out]; exact hlt)
   have y1 := HW.out.cell y1
   have L1 := Ho.mk l1
   have C1 := Ho.mk c1
   clear l1 c1
   cases h0 : (FloatKind.f64.format.order r 0 == some .eq) with
   | true =>
    have UP := Ho.mk (pass0 L1.out h0)
    go_wp2
    go_roundw
    case rel => exact ⟨i + 1, by omega, by simp, ⟨fun j hj => by rcases Nat.lt_or_ge j i with l | l; exact HT.out j l; rw [show j = i by omega, ← C1.out]; exact UP.out⟩, HW⟩
    case measure => simp [intOf]; omega
   | false =>
    cases h1 : (FloatKind.f64.format.order r 3256102530588868608 == some .gt || FloatKind.f64.format.order r 3256102530588868608 == some .eq) with
    | true =>
     cases h2 : (FloatKind.f64.format.order r 5958262307011166208 == some .lt || FloatKind.f64.format.order r 5958262307011166208 == some .eq) with
     | true =>
      have UP := Ho.mk (pass1 L1.out h1 h2)
      go_wp2
      go_roundw
      case rel => exact ⟨i + 1, by omega, by simp, ⟨fun j hj => by rcases Nat.lt_or_ge j i with l | l; exact HT.out j l; rw [show j = i by omega, ← C1.out]; exact UP.out⟩, HW⟩
      case measure => simp [intOf]; omega
     | false =>
      cases h3 : (FloatKind.f64.format.order r 12479474567443644416 == some .lt || FloatKind.f64.format.order r 12479474567443644416 == some .eq) with
      | true =>
       cases h4 : (FloatKind.f64.format.order r 15181634343865942016 == some .gt || FloatKind.f64.format.order r 15181634343865942016 == some .eq) with
       | true =>
        have UP := Ho.mk (pass2 L1.out h3 h4)
        go_wp2
        go_roundw
        case rel => exact ⟨i + 1, by omega, by simp, ⟨fun j hj => by rcases Nat.lt_or_ge j i with l | l; exact HT.out j l; rw [show j = i by omega, ← C1.out]; exact UP.out⟩, HW⟩
        case measure => simp [intOf]; omega
       | false =>
        go_wp2
        go_ret
        exact ⟨false, rfl, HW.out, fun e => by cases e⟩
      | false =>
       go_wp2
       go_ret
       exact ⟨false, rfl, HW.out, fun e => by cases e⟩
    | false =>
     cases h3 : (FloatKind.f64.format.order r 12479474567443644416 == some .lt || FloatKind.f64.format.order r 12479474567443644416 == some .eq) with
     | true =>
      cases h4 : (FloatKind.f64.format.order r 15181634343865942016 == some .gt || FloatKind.f64.format.order r 15181634343865942016 == some .eq) with
      | true =>
       have UP := Ho.mk (pass2 L1.out h3 h4)
       go_wp2
       go_roundw
       case rel => exact ⟨i + 1, by omega, by simp, ⟨fun j hj => by rcases Nat.lt_or_ge j i with l | l; exact HT.out j l; rw [show j = i by omega, ← C1.out]; exact UP.out⟩, HW⟩
       case measure => simp [intOf]; omega
      | false =>
       go_wp2
       go_ret
       exact ⟨false, rfl, HW.out, fun e => by cases e⟩
     | false =>
      go_wp2
      go_ret
      exact ⟨false, rfl, HW.out, fun e => by cases e⟩
  ·obtain rfl : i = n := by omega
   go_wp2
   go_ret
   exact ⟨true, rfl, HW.out, fun _ => HT.out⟩
end Pq
namespace Lv
open Ieee Go Go.RowKit Go.Proofs Go.Proofs.YtnbdoidccacdnaaGreatDoor Ow Dt Gp I0 U0 W0 S4 S6 P0 M0 M1 M2 M3 P4 P5 P6 P8 Pa Pb W4 W5 W1 W2 Pc Pe Pg Ph Go.Proofs.YtnbdoidccacdnaaGreatDoor.Pi Pj Pk
theorem litRow {w : World} {b n : Nat} {cs : List Value} {X : List Nat} (K : Blk w b 50 cs) (hc : cs = X.map (.float .f64)) (hX : X.all (fun x => decide (x < 2 * sgnW) && (cn x == x)) = true) (hn : X.length = n) (hl : n ≤ 1000) : RowF w b (.slice (some ⟨b, 0, none⟩) n n) X := by
 subst hc; subst hn
 have hx : ∀ x ∈ X, x < 2 * sgnW ∧ cn x = x := fun x h => by
  have := List.all_eq_true.1 hX x h
  simpa using this
 exact RowF.of ⟨_, K, fun j hj => ⟨.float .f64 X[j], by simp [hj], X[j], rfl, (hx _ (List.getElem_mem hj)).1, by rw [nthN_lt hj]; exact (hx _ (List.getElem_mem hj)).2⟩⟩ (Nat.le_refl _) (Nat.le_refl _) (Nat.le_trans hl (by decide))
theorem In.len {w : World} {A : Option Addr} {n c : Nat} {X : List Nat} (h : In w (.slice A n c) X) : n = X.length := by
 obtain ⟨A1, c1, e, _⟩ := h.out
 cases e; rfl
theorem RowF.len {w : World} {B : Nat} {A : Option Addr} {n c : Nat} {X : List Nat} (h : RowF w B (.slice A n c) X) : n = X.length := by
 obtain ⟨A1, c1, e, _⟩ := h.out
 cases e; rfl
theorem inn {w : World} {B : Nat} {v : Value} {X : List Nat} (h : RowF w B v X) (hm : X.length ≤ 100000) : In w v X := RowF.inn h (by omega)
theorem in_nil (w : World) (A : Option Addr) : In w (.slice none 0 0) [] := ⟨none, 0, rfl, Nat.le_refl _, by decide, Fr.nil _ _, fun _ => rfl⟩
section
variable {A B : Option Addr} {n m c c' : Nat} {X Y : List Nat} {w : World}
theorem pIfft (T : Tab w) (hx : In w (.slice A n c) X) (hy : In w (.slice B m c') Y) (hl : X.length ≤ 128) (hl' : Y.length ≤ 128) {X' Y' : List Nat} {z : Int} (h1 : (X', Y') = ifR X Y) (h2 : z = errR X Y) :
  Calls Tryz.prog 17 #[.agg #[.slice A n c, .slice B m c']] w (MakesVE w X' Y' z) := by
 obtain rfl := In.len hx; obtain rfl := In.len hy
 have h := dIfft w T hx hy hl hl'
 rw [← h1, ← h2] at h; exact h
theorem pConj (T : Tab w) (hx : In w (.slice A n c) X) (hy : In w (.slice B m c') Y) (hl : X.length ≤ 128) (hl' : Y.length ≤ 128) {Y' : List Nat} (h1 : Y' = Y.map fng) :
  Calls Tryz.prog 22 #[.agg #[.slice A n c, .slice B m c']] w (MakesV w X Y') := by
 obtain rfl := In.len hx; obtain rfl := In.len hy
 have h := dConj w T hx hy hl hl'
 rw [← h1] at h; exact h
theorem pSwap (hx : In w (.slice A n c) X) (hy : In w (.slice B m c') Y) (hl : X.length ≤ 128) (hl' : Y.length ≤ 128) :
  Calls Tryz.prog 24 #[.agg #[.slice A n c, .slice B m c']] w (MakesV w Y X) := by
 obtain rfl := In.len hx; obtain rfl := In.len hy
 exact dSwapV w hx hy hl hl'
theorem pSame {A2 B2 : Option Addr} {n2 m2 c2 d2 : Nat} {X2 Y2 : List Nat} {z : Bool} (hx : In w (.slice A n c) X) (hy : In w (.slice B m c') Y) (hx2 : In w (.slice A2 n2 c2) X2) (hy2 : In w (.slice B2 m2 d2) Y2)
  (l1 : X.length ≤ 100000) (l2 : Y.length ≤ 100000) (l3 : X2.length ≤ 100000) (l4 : Y2.length ≤ 100000) (hz : z = decide (X = X2 ∧ Y = Y2)) :
  Calls Tryz.prog 21 #[.agg #[.slice A n c, .slice B m c'], .agg #[.slice A2 n2 c2, .slice B2 m2 d2]] w (fun e w' => e = .returned (.bool z) ∧ Bel w w') := by
 obtain rfl := In.len hx; obtain rfl := In.len hy; obtain rfl := In.len hx2; obtain rfl := In.len hy2
 rw [hz]
 exact dSame w hx hy hx2 hy2 l1 l2 l3 l4
theorem pInto {fn : Nat} {R : List Nat → List Nat → List Nat × List Nat} (hI : IntoSaid fn R) (hR : ∀ X Y, (R X Y).1.length = X.length ∧ (R X Y).2.length = Y.length) {D : Nat} (T : Tab w) (tw : Two w D (.slice A n c) (.slice B m c') X Y) (hl : X.length ≤ 128) (hl' : Y.length ≤ 128) (hD : D ≤ w.heap.size) {X' Y' : List Nat} {z : Int} (h1 : (X', Y') = R X Y) (h2 : z = errR X Y) :
  Calls Tryz.prog fn #[.agg #[.slice A n c, .slice B m c']] w fun e w' => e = .returned (.int .i64 z) ∧ Two w' D (.slice A n c) (.slice B m c') X' Y' ∧ Frm A B n m w w' := by
 obtain rfl := RowF.len tw.one; obtain rfl := RowF.len tw.two
 have h := hI w D c c' A B X Y T tw hl hl' hD
 rw [← h1, ← h2] at h; exact h
theorem frmBlk {w' : World} {D k : Nat} {t : TypeId} {cs : List Value} (g : Frm A B n m w w') (tw : Two w D (.slice A n c) (.slice B m c') X Y) (K : Blk w k t cs) (hk : ∀ b, D ≤ b → Fz w b X ∨ Fz w b Y → k ≠ b) : Blk w' k t cs := by
 obtain rfl := RowF.len tw.one; obtain rfl := RowF.len tw.two
 exact g.blk tw K hk
theorem frmVec {w' : World} {D k : Nat} {cs : List Value} (g : Frm A B n m w w') (tw : Two w D (.slice A n c) (.slice B m c') X Y) (K : Blk w k 24 cs) : Blk w' k 24 cs :=
 frmBlk g tw K (fun b _ hf => by rcases hf with hf | hf <;> exact vec_ne K hf)
theorem frmBel {W0 w' : World} {D : Nat} (g : Frm A B n m w w') (tw : Two w D (.slice A n c) (.slice B m c') X Y) (h : Bel W0 w) (hB : W0.heap.size ≤ D) : Bel W0 w' := by
 obtain rfl := RowF.len tw.one; obtain rfl := RowF.len tw.two
 exact g.bel tw h hB
end
theorem two_lits {w : World} {b1 b2 D n m c d : Nat} {X Y : List Nat} (h1 : RowF w b1 (.slice (some ⟨b1, 0, none⟩) n c) X) (h2 : RowF w b2 (.slice (some ⟨b2, 0, none⟩) m d) Y) (ne : b1 ≠ b2) (l1 : D ≤ b1) (l2 : D ≤ b2) : Two w D (.slice (some ⟨b1, 0, none⟩) n c) (.slice (some ⟨b2, 0, none⟩) m d) X Y :=
 ⟨h1.mono l1, h2.mono l2, fun _ _ _ _ _ _ _ _ e e' _ _ => by cases e; cases e'; exact ne⟩
end Lv
namespace La
open Ieee Go Go.RowKit Go.Proofs Go.Proofs.YtnbdoidccacdnaaGreatDoor Ow Dt Gp I0 U0 W0 S4 S6 P0 M0 M1 M2 M3 P4 P5 P6 P8 Pa Pb W4 W5 W1 W2 Pc Pe Pg Ph Go.Proofs.YtnbdoidccacdnaaGreatDoor.Pi Pj Pk Lv
attribute [local go_sem ↓] Go.wp_at_zero Go.wp_at_succ
theorem h1 : ifR [4621819117588971520, 13837309855095848960, 13835058055282163712, 13830554455654793216] [4607182418800017408, 4611686018427387904, 13830554455654793216, 13835058055282163712] = ([4607182418800017408, 4611686018427387904, 4613937818241073152, 4616189618054758400], [0, 0, 0, 4607182418800017408]) ∧ errR [4621819117588971520, 13837309855095848960, 13835058055282163712, 13830554455654793216] [4607182418800017408, 4611686018427387904, 13830554455654793216, 13835058055282163712] = 0 := by decide +kernel
theorem h2 : ifR [] [] = ([], []) ∧ errR [] [] = 2 := by decide +kernel
theorem h3 : invR [4619567317775286272, 4613937818241073152] [4611686018427387904, 0] = ([4617315517961601024, 4611686018427387904], [4607182418800017408, 4607182418800017408]) ∧ errR [4619567317775286272, 4613937818241073152] [4611686018427387904, 0] = 0 := by decide +kernel
theorem h4 : [4613937818241073152].map fng = [13837309855095848960] := by decide +kernel
theorem head13 (w : World) (T : Tab w) : Calls Tryz.prog 15 #[] w (fun e w' => e = .returned (.bool true) ∧ Bel w w') := by
 have TT := Ho.mk T
 clear T
 go_enter Tryz.func15, Tryz.ntmps15
 go_wp2_with fail
 have K1 := Ho.mk ((Blk.new w [.float .f64 4621819117588971520, .float .f64 13837309855095848960, .float .f64 13835058055282163712, .float .f64 13830554455654793216] 50).old (.cells #[.float .f64 4607182418800017408, .float .f64 4611686018427387904, .float .f64 13830554455654793216, .float .f64 13835058055282163712] 50))
 have K2 := Ho.mk (Blk.new (w.alloc (.cells #[.float .f64 4621819117588971520, .float .f64 13837309855095848960, .float .f64 13835058055282163712, .float .f64 13830554455654793216] 50)) [.float .f64 4607182418800017408, .float .f64 4611686018427387904, .float .f64 13830554455654793216, .float .f64 13835058055282163712] 50)
 simp only [World.size_alloc] at K2
 have g1 := Ho.mk (((Bel.refl w).alloc (.cells #[.float .f64 4621819117588971520, .float .f64 13837309855095848960, .float .f64 13835058055282163712, .float .f64 13830554455654793216] 50)).alloc (.cells #[.float .f64 4607182418800017408, .float .f64 4611686018427387904, .float .f64 13830554455654793216, .float .f64 13835058055282163712] 50))
 generalize (w.alloc (.cells #[.float .f64 4621819117588971520, .float .f64 13837309855095848960, .float .f64 13835058055282163712, .float .f64 13830554455654793216] 50)).alloc (.cells #[.float .f64 4607182418800017408, .float .f64 4611686018427387904, .float .f64 13830554455654793216, .float .f64 13835058055282163712] 50) = v2 at *
 have R3 := Ho.mk (litRow (X := [4621819117588971520, 13837309855095848960, 13835058055282163712, 13830554455654793216]) K1.out rfl (by decide) (n := 4) rfl (by decide))
 have R4 := Ho.mk (litRow (X := [4607182418800017408, 4611686018427387904, 13830554455654793216, 13835058055282163712]) K2.out rfl (by decide) (n := 4) rfl (by decide))
 obtain ⟨X1, Y1, hXY1⟩ : ∃ X Y, (X, Y) = ifR [4621819117588971520, 13837309855095848960, 13835058055282163712, 13830554455654793216] [4607182418800017408, 4611686018427387904, 13830554455654793216, 13835058055282163712] := ⟨_, _, rfl⟩
 have C5 := Ho.mk (pIfft (TT.out.bel g1.out) (inn R3.out (by decide)) (inn R4.out (by decide)) (by decide) (by decide) hXY1 (z := 0) h1.2.symm)
 (with_reducible refine C5.out.mono ?_); rintro e v6 ⟨P1, c1, Q1, d1, rfl, t1, b7⟩
 have b7H := Ho.mk b7
 have T1 := Ho.mk t1
 clear C5 b7 t1
 have HXY1 := Ho.mk (hXY1.trans h1.1)
 clear hXY1
 go_wp2_with fail
 have BX1 := Ho.mk (Blk.new v6 [.slice P1 X1.length c1, .slice Q1 Y1.length d1] 24)
 have g8 := Ho.mk ((Bel.refl v6).alloc (.cells #[.slice P1 X1.length c1, .slice Q1 Y1.length d1] 24))
 generalize v6.alloc (.cells #[.slice P1 X1.length c1, .slice Q1 Y1.length d1] 24) = v9 at *
 obtain ⟨X2, Y2, hXY2⟩ : ∃ X Y, (X, Y) = ifR [] [] := ⟨_, _, rfl⟩
 have C10 := Ho.mk (pIfft (TT.out.bel ((g1.out.trans b7H.out).trans g8.out)) (in_nil _ none) (in_nil _ none) (by decide) (by decide) hXY2 (z := 2) h2.2.symm)
 (with_reducible refine C10.out.mono ?_); rintro e v11 ⟨P2, c2, Q2, d2, rfl, t2, b12⟩
 have b12H := Ho.mk b12
 have T2 := Ho.mk t2
 clear C10 b12 t2
 clear hXY2
 go_wp2_with fail
 have BX2 := Ho.mk ((((Blk.new v11 [.slice P2 X2.length c2, .slice Q2 Y2.length d2] 24).old (.cells #[.float .f64 4619567317775286272, .float .f64 4613937818241073152] 50)).old (.cells #[.float .f64 4611686018427387904, .float .f64 0] 50)).old (.cells #[.slice (some ⟨v11.heap.size + 1, 0, none⟩) 2 2, .slice (some ⟨v11.heap.size + 1 + 1, 0, none⟩) 2 2] 24))
 have K3 := Ho.mk (((Blk.new (v11.alloc (.cells #[.slice P2 X2.length c2, .slice Q2 Y2.length d2] 24)) [.float .f64 4619567317775286272, .float .f64 4613937818241073152] 50).old (.cells #[.float .f64 4611686018427387904, .float .f64 0] 50)).old (.cells #[.slice (some ⟨v11.heap.size + 1, 0, none⟩) 2 2, .slice (some ⟨v11.heap.size + 1 + 1, 0, none⟩) 2 2] 24))
 simp only [World.size_alloc] at K3
 have K4 := Ho.mk ((Blk.new ((v11.alloc (.cells #[.slice P2 X2.length c2, .slice Q2 Y2.length d2] 24)).alloc (.cells #[.float .f64 4619567317775286272, .float .f64 4613937818241073152] 50)) [.float .f64 4611686018427387904, .float .f64 0] 50).old (.cells #[.slice (some ⟨v11.heap.size + 1, 0, none⟩) 2 2, .slice (some ⟨v11.heap.size + 1 + 1, 0, none⟩) 2 2] 24))
 simp only [World.size_alloc] at K4
 have BX5 := Ho.mk (Blk.new (((v11.alloc (.cells #[.slice P2 X2.length c2, .slice Q2 Y2.length d2] 24)).alloc (.cells #[.float .f64 4619567317775286272, .float .f64 4613937818241073152] 50)).alloc (.cells #[.float .f64 4611686018427387904, .float .f64 0] 50)) [.slice (some ⟨v11.heap.size + 1, 0, none⟩) 2 2, .slice (some ⟨v11.heap.size + 1 + 1, 0, none⟩) 2 2] 24)
 simp only [World.size_alloc] at BX5
 have g13 := Ho.mk (((((Bel.refl v11).alloc (.cells #[.slice P2 X2.length c2, .slice Q2 Y2.length d2] 24)).alloc (.cells #[.float .f64 4619567317775286272, .float .f64 4613937818241073152] 50)).alloc (.cells #[.float .f64 4611686018427387904, .float .f64 0] 50)).alloc (.cells #[.slice (some ⟨v11.heap.size + 1, 0, none⟩) 2 2, .slice (some ⟨v11.heap.size + 1 + 1, 0, none⟩) 2 2] 24))
 generalize (((v11.alloc (.cells #[.slice P2 X2.length c2, .slice Q2 Y2.length d2] 24)).alloc (.cells #[.float .f64 4619567317775286272, .float .f64 4613937818241073152] 50)).alloc (.cells #[.float .f64 4611686018427387904, .float .f64 0] 50)).alloc (.cells #[.slice (some ⟨v11.heap.size + 1, 0, none⟩) 2 2, .slice (some ⟨v11.heap.size + 1 + 1, 0, none⟩) 2 2] 24) = v14 at *
 have R15 := Ho.mk (litRow (X := [4619567317775286272, 4613937818241073152]) K3.out rfl (by decide) (n := 2) rfl (by decide))
 have R16 := Ho.mk (litRow (X := [4611686018427387904, 0]) K4.out rfl (by decide) (n := 2) rfl (by decide))
 obtain ⟨X3, Y3, hXY3⟩ : ∃ X Y, (X, Y) = invR [4619567317775286272, 4613937818241073152] [4611686018427387904, 0] := ⟨_, _, rfl⟩
 have TW17 := Ho.mk (two_lits (D := v11.heap.size) R15.out R16.out (by omega) (by omega) (by omega))
 have y18 := (BX5.out).cell (i := 0) rfl
 have y19 := (BX5.out).cell (i := 1) rfl
 have sz20 := g13.out.size
 go_wp2_with fail
 have C21 := Ho.mk (pInto (D := v11.heap.size) invInto invR_len (TT.out.bel ((((g1.out.trans b7H.out).trans g8.out).trans b12H.out).trans g13.out)) TW17.out (by decide) (by decide) sz20 hXY3 (z := 0) h3.2.symm)
 (with_reducible refine C21.out.mono ?_); rintro e v22 ⟨rfl, t3, b23⟩
 have T3 := Ho.mk t3
 clear C21 t3
 have fz := Ho.mk (frmBel b23 TW17.out g13.out (Nat.le_refl _))
 have BX5 := Ho.mk (frmVec b23 TW17.out BX5.out)
 clear b23
 have HXY3 := Ho.mk (hXY3.trans h3.1)
 clear hXY3
 clear y18 y19
 go_upto_region 6 with fail
 have K5 := Ho.mk (((Blk.new v22 [.float .f64 4607182418800017408, .float .f64 4611686018427387904] 50).old (.cells #[.float .f64 4613937818241073152] 50)).old (.cells #[.slice (some ⟨v22.heap.size, 0, none⟩) 2 2, .slice (some ⟨v22.heap.size + 1, 0, none⟩) 1 1] 24))
 have K6 := Ho.mk ((Blk.new (v22.alloc (.cells #[.float .f64 4607182418800017408, .float .f64 4611686018427387904] 50)) [.float .f64 4613937818241073152] 50).old (.cells #[.slice (some ⟨v22.heap.size, 0, none⟩) 2 2, .slice (some ⟨v22.heap.size + 1, 0, none⟩) 1 1] 24))
 simp only [World.size_alloc] at K6
 have BX7 := Ho.mk (Blk.new ((v22.alloc (.cells #[.float .f64 4607182418800017408, .float .f64 4611686018427387904] 50)).alloc (.cells #[.float .f64 4613937818241073152] 50)) [.slice (some ⟨v22.heap.size, 0, none⟩) 2 2, .slice (some ⟨v22.heap.size + 1, 0, none⟩) 1 1] 24)
 simp only [World.size_alloc] at BX7
 have g24 := Ho.mk ((((Bel.refl v22).alloc (.cells #[.float .f64 4607182418800017408, .float .f64 4611686018427387904] 50)).alloc (.cells #[.float .f64 4613937818241073152] 50)).alloc (.cells #[.slice (some ⟨v22.heap.size, 0, none⟩) 2 2, .slice (some ⟨v22.heap.size + 1, 0, none⟩) 1 1] 24))
 generalize ((v22.alloc (.cells #[.float .f64 4607182418800017408, .float .f64 4611686018427387904] 50)).alloc (.cells #[.float .f64 4613937818241073152] 50)).alloc (.cells #[.slice (some ⟨v22.heap.size, 0, none⟩) 2 2, .slice (some ⟨v22.heap.size + 1, 0, none⟩) 1 1] 24) = v25 at *
 have R26 := Ho.mk (litRow (X := [4607182418800017408, 4611686018427387904]) K5.out rfl (by decide) (n := 2) rfl (by decide))
 have R27 := Ho.mk (litRow (X := [4613937818241073152]) K6.out rfl (by decide) (n := 1) rfl (by decide))
 obtain ⟨U5, hU5⟩ : ∃ L, L = [4607182418800017408, 4611686018427387904] := ⟨_, rfl⟩
 rw [← hU5] at R26
 have HU5 := Ho.mk hU5
 clear hU5
 obtain ⟨U6, hU6⟩ : ∃ L, L = [4613937818241073152] := ⟨_, rfl⟩
 rw [← hU6] at R27
 have HU6 := Ho.mk hU6
 clear hU6
 have e1 := congrArg Prod.fst HXY1.out
 have f1 := congrArg Prod.snd HXY1.out
 have e3 := congrArg Prod.fst HXY3.out
 have f3 := congrArg Prod.snd HXY3.out
 dsimp only at e1 f1 e3 f3
 have E := Ho.mk (And.intro (And.intro e1 f1) (And.intro e3 f3))
 clear e1 f1 e3 f3
 have y28 := ((BX1.out.bel ((b12H.out.trans fz.out).trans g24.out))).cell (i := 0) rfl
 have y29 := ((BX1.out.bel ((b12H.out.trans fz.out).trans g24.out))).cell (i := 1) rfl
 go_wp2_with fail
 have Kaa := Ho.mk ((Blk.new v25 [.float .f64 4607182418800017408, .float .f64 4611686018427387904, .float .f64 4613937818241073152, .float .f64 4616189618054758400] 50).old (.cells #[.float .f64 0, .float .f64 0, .float .f64 0, .float .f64 4607182418800017408] 50))
 have Kab := Ho.mk (Blk.new (v25.alloc (.cells #[.float .f64 4607182418800017408, .float .f64 4611686018427387904, .float .f64 4613937818241073152, .float .f64 4616189618054758400] 50)) [.float .f64 0, .float .f64 0, .float .f64 0, .float .f64 4607182418800017408] 50)
 simp only [World.size_alloc] at Kab
 have g30 := Ho.mk (((Bel.refl v25).alloc (.cells #[.float .f64 4607182418800017408, .float .f64 4611686018427387904, .float .f64 4613937818241073152, .float .f64 4616189618054758400] 50)).alloc (.cells #[.float .f64 0, .float .f64 0, .float .f64 0, .float .f64 4607182418800017408] 50))
 generalize (v25.alloc (.cells #[.float .f64 4607182418800017408, .float .f64 4611686018427387904, .float .f64 4613937818241073152, .float .f64 4616189618054758400] 50)).alloc (.cells #[.float .f64 0, .float .f64 0, .float .f64 0, .float .f64 4607182418800017408] 50) = v31 at *
 have R32 := Ho.mk (litRow (X := [4607182418800017408, 4611686018427387904, 4613937818241073152, 4616189618054758400]) Kaa.out rfl (by decide) (n := 4) rfl (by decide))
 have R33 := Ho.mk (litRow (X := [0, 0, 0, 4607182418800017408]) Kab.out rfl (by decide) (n := 4) rfl (by decide))
 have C34 := Ho.mk (pSame (z := true) (inn ((T1.out.bel ((((g8.out.trans b12H.out).trans fz.out).trans g24.out).trans g30.out))).one (by rw [E.out.1.1]; decide)) (inn ((T1.out.bel ((((g8.out.trans b12H.out).trans fz.out).trans g24.out).trans g30.out))).two (by rw [E.out.1.2]; decide)) (inn R32.out (by decide)) (inn R33.out (by decide)) (by rw [E.out.1.1]; decide) (by rw [E.out.1.2]; decide) (by decide) (by decide) (by rw [E.out.1.1, E.out.1.2]; decide))
 (with_reducible refine C34.out.mono ?_); rintro e v35 ⟨rfl, b36⟩
 have b36H := Ho.mk b36
 clear C34 b36
 clear y28 y29
 have y37 := ((BX5.out.bel ((g24.out.trans g30.out).trans b36H.out))).cell (i := 0) rfl
 have y38 := ((BX5.out.bel ((g24.out.trans g30.out).trans b36H.out))).cell (i := 1) rfl
 go_wp2_with fail
 have Kba := Ho.mk ((Blk.new v35 [.float .f64 4617315517961601024, .float .f64 4611686018427387904] 50).old (.cells #[.float .f64 4607182418800017408, .float .f64 4607182418800017408] 50))
 have Kbb := Ho.mk (Blk.new (v35.alloc (.cells #[.float .f64 4617315517961601024, .float .f64 4611686018427387904] 50)) [.float .f64 4607182418800017408, .float .f64 4607182418800017408] 50)
 simp only [World.size_alloc] at Kbb
 have g39 := Ho.mk (((Bel.refl v35).alloc (.cells #[.float .f64 4617315517961601024, .float .f64 4611686018427387904] 50)).alloc (.cells #[.float .f64 4607182418800017408, .float .f64 4607182418800017408] 50))
 generalize (v35.alloc (.cells #[.float .f64 4617315517961601024, .float .f64 4611686018427387904] 50)).alloc (.cells #[.float .f64 4607182418800017408, .float .f64 4607182418800017408] 50) = v40 at *
 have R41 := Ho.mk (litRow (X := [4617315517961601024, 4611686018427387904]) Kba.out rfl (by decide) (n := 2) rfl (by decide))
 have R42 := Ho.mk (litRow (X := [4607182418800017408, 4607182418800017408]) Kbb.out rfl (by decide) (n := 2) rfl (by decide))
 have C43 := Ho.mk (pSame (z := true) (inn ((T3.out.bel (((g24.out.trans g30.out).trans b36H.out).trans g39.out))).one (by rw [E.out.2.1]; decide)) (inn ((T3.out.bel (((g24.out.trans g30.out).trans b36H.out).trans g39.out))).two (by rw [E.out.2.2]; decide)) (inn R41.out (by decide)) (inn R42.out (by decide)) (by rw [E.out.2.1]; decide) (by rw [E.out.2.2]; decide) (by decide) (by decide) (by rw [E.out.2.1, E.out.2.2]; decide))
 (with_reducible refine C43.out.mono ?_); rintro e v44 ⟨rfl, b45⟩
 have b45H := Ho.mk b45
 clear C43 b45
 clear y37 y38
 have y46 := ((BX7.out.bel (((g30.out.trans b36H.out).trans g39.out).trans b45H.out))).cell (i := 0) rfl
 have y47 := ((BX7.out.bel (((g30.out.trans b36H.out).trans g39.out).trans b45H.out))).cell (i := 1) rfl
 go_wp2_with fail
 obtain ⟨Z4, hZ4⟩ : ∃ Z, Z = U6.map fng := ⟨_, rfl⟩
 have C48 := Ho.mk (pConj (TT.out.bel (((((((((g1.out.trans b7H.out).trans g8.out).trans b12H.out).trans fz.out).trans g24.out).trans g30.out).trans b36H.out).trans g39.out).trans b45H.out)) (inn (R26.out.bel (((g30.out.trans b36H.out).trans g39.out).trans b45H.out)) (by rw [HU5.out]; decide)) (inn (R27.out.bel (((g30.out.trans b36H.out).trans g39.out).trans b45H.out)) (by rw [HU6.out]; decide)) (by rw [HU5.out]; decide) (by rw [HU6.out]; decide) hZ4)
 (with_reducible refine C48.out.mono ?_); rintro e v49 ⟨P4, c4, Q4, d4, rfl, t4, b50⟩
 have b50H := Ho.mk b50
 have T4 := Ho.mk t4
 clear C48 b50 t4
 have E4 : Ho (Z4 = [13837309855095848960]) := ⟨hZ4.trans (by rw [HU6.out]; exact h4)⟩
 clear hZ4
 go_wp2_with fail
 have Kc := Ho.mk ((Blk.new v49 [.float .f64 4607182418800017408, .float .f64 4611686018427387904] 50).old (.cells #[.float .f64 13837309855095848960] 50))
 have Kd := Ho.mk (Blk.new (v49.alloc (.cells #[.float .f64 4607182418800017408, .float .f64 4611686018427387904] 50)) [.float .f64 13837309855095848960] 50)
 simp only [World.size_alloc] at Kd
 have g51 := Ho.mk (((Bel.refl v49).alloc (.cells #[.float .f64 4607182418800017408, .float .f64 4611686018427387904] 50)).alloc (.cells #[.float .f64 13837309855095848960] 50))
 generalize (v49.alloc (.cells #[.float .f64 4607182418800017408, .float .f64 4611686018427387904] 50)).alloc (.cells #[.float .f64 13837309855095848960] 50) = v52 at *
 have R53 := Ho.mk (litRow (X := [4607182418800017408, 4611686018427387904]) Kc.out rfl (by decide) (n := 2) rfl (by decide))
 have R54 := Ho.mk (litRow (X := [13837309855095848960]) Kd.out rfl (by decide) (n := 1) rfl (by decide))
 have C55 := Ho.mk (pSame (z := true) (inn ((T4.out.bel g51.out)).one (by rw [HU5.out]; decide)) (inn ((T4.out.bel g51.out)).two (by rw [E4.out]; decide)) (inn R53.out (by decide)) (inn R54.out (by decide)) (by rw [HU5.out]; decide) (by rw [E4.out]; decide) (by decide) (by decide) (by rw [E4.out, HU5.out]; decide))
 (with_reducible refine C55.out.mono ?_); rintro e v56 ⟨rfl, b57⟩
 have b57H := Ho.mk b57
 clear C55 b57
 clear y46 y47
 have y58 := ((BX7.out.bel ((((((g30.out.trans b36H.out).trans g39.out).trans b45H.out).trans b50H.out).trans g51.out).trans b57H.out))).cell (i := 0) rfl
 have y59 := ((BX7.out.bel ((((((g30.out.trans b36H.out).trans g39.out).trans b45H.out).trans b50H.out).trans g51.out).trans b57H.out))).cell (i := 1) rfl
 go_wp2_with fail
 have C60 := Ho.mk (pSwap (inn (R26.out.bel ((((((g30.out.trans b36H.out).trans g39.out).trans b45H.out).trans b50H.out).trans g51.out).trans b57H.out)) (by rw [HU5.out]; decide)) (inn (R27.out.bel ((((((g30.out.trans b36H.out).trans g39.out).trans b45H.out).trans b50H.out).trans g51.out).trans b57H.out)) (by rw [HU6.out]; decide)) (by rw [HU5.out]; decide) (by rw [HU6.out]; decide))
 (with_reducible refine C60.out.mono ?_); rintro e v61 ⟨P5, c5, Q5, d5, rfl, t5, b62⟩
 have b62H := Ho.mk b62
 have T5 := Ho.mk t5
 clear C60 b62 t5
 go_wp2_with fail
 have Ke := Ho.mk ((Blk.new v61 [.float .f64 4613937818241073152] 50).old (.cells #[.float .f64 4607182418800017408, .float .f64 4611686018427387904] 50))
 have Kf := Ho.mk (Blk.new (v61.alloc (.cells #[.float .f64 4613937818241073152] 50)) [.float .f64 4607182418800017408, .float .f64 4611686018427387904] 50)
 simp only [World.size_alloc] at Kf
 have g63 := Ho.mk (((Bel.refl v61).alloc (.cells #[.float .f64 4613937818241073152] 50)).alloc (.cells #[.float .f64 4607182418800017408, .float .f64 4611686018427387904] 50))
 generalize (v61.alloc (.cells #[.float .f64 4613937818241073152] 50)).alloc (.cells #[.float .f64 4607182418800017408, .float .f64 4611686018427387904] 50) = v64 at *
 have R65 := Ho.mk (litRow (X := [4613937818241073152]) Ke.out rfl (by decide) (n := 1) rfl (by decide))
 have R66 := Ho.mk (litRow (X := [4607182418800017408, 4611686018427387904]) Kf.out rfl (by decide) (n := 2) rfl (by decide))
 have C67 := Ho.mk (pSame (z := true) (inn ((T5.out.bel g63.out)).one (by rw [HU6.out]; decide)) (inn ((T5.out.bel g63.out)).two (by rw [HU5.out]; decide)) (inn R65.out (by decide)) (inn R66.out (by decide)) (by rw [HU6.out]; decide) (by rw [HU5.out]; decide) (by decide) (by decide) (by rw [HU5.out, HU6.out]; decide))
 (with_reducible refine C67.out.mono ?_); rintro e v68 ⟨rfl, b69⟩
 have b69H := Ho.mk b69
 clear C67 b69
 clear y58 y59
 go_wp2
 go_ret
 exact ⟨rfl, (((((((((((((((g1.out.trans b7H.out).trans g8.out).trans b12H.out).trans fz.out).trans g24.out).trans g30.out).trans b36H.out).trans g39.out).trans b45H.out).trans b50H.out).trans g51.out).trans b57H.out).trans b62H.out).trans g63.out).trans b69H.out)⟩
end La
namespace Pr
open Ieee Go Go.RowKit Go.Proofs Go.Proofs.YtnbdoidccacdnaaGreatDoor Ow S4
theorem wp_mkF {P : Program} (hP : P = Tryz.prog) (w : World) {o : Oper} {a : Act} {K : Act → World → Prop} {Q : Exit → Act → World → Prop}
  (l c : Operand) (hop : o.op = Op.makeSlice 22 l c)
  (n : Nat) (hl : a.eval l = .int .i64 (n : Int)) (hc : a.eval c = .int .i64 (n : Int)) (hm : n ≤ 100000)
  (hK : ∀ w', Blk w' w.heap.size 50 (List.replicate n (.float .f64 0)) → Bel w w' → w'.heap.size = w.heap.size + 1 → K (a.put o.dst (.slice (some ⟨w.heap.size, 0, none⟩) n n)) w') :
  Oper.wp P o a w K Q := by
 subst hP
 obtain ⟨i, hi, hzz⟩ := Option.map_eq_some_iff.1 infoF
 simp only [Prod.mk.injEq] at hzz
 obtain ⟨hz, hs, hb⟩ := hzz
 have hrun := run_make (P := Tryz.prog) w 22 50 i _ Tryz.underlying22 hi hz .i64 .i64 n n (by omega) (Int.le_refl _) (by rw [hb]; omega) (by omega)
 rw [hs] at hrun
 simp only [Int.toNat_natCast, Nat.mul_one] at hrun
 try rw [show (Value.float .f64 0).cells = #[.float .f64 0] from by kernel_rfl] at hrun
 have e1 : madeCells #[Value.float .f64 0] n = (List.replicate n (Value.float .f64 0)).toArray := by rw [← toList_madeCells_one]
 rw [e1] at hrun
 unfold Oper.wp
 simp [execOp, hop, hl, hc, hrun, Result.andThen]
 exact hK _ (Blk.new _ _ _) ((Bel.refl w).alloc _) (by simp)
end Pr
namespace Lc
open Ieee Go Go.RowKit Go.Proofs Go.Proofs.YtnbdoidccacdnaaGreatDoor Ow Dt Gp I0 U0 W0 S4 S6 P0 M0 M1 M2 M3 P4 P5 P6 P8 Pa Pb W4 W5 W1 W2 Pc Pe Pg Ph Go.Proofs.YtnbdoidccacdnaaGreatDoor.Pi Pj Pk Lv La Pn
attribute [local go_sem ↓] Go.wp_at_zero Go.wp_at_succ
theorem run_ov {P : Program} {p : Nat} (hp : p ≤ 7) (t : TypeId) {a : Nat} (ha : a < 2 * sgnW) (w : World) :
  ∃ r w', (binOp .quo t (.float .f64 a) (.float .f64 (P2 (1023 + p)))).run P w = .ok (.float .f64 r) w' ∧ Bel w w' ∧ r < 2 * sgnW ∧ cn r = ov p (cn a) := by
 obtain ⟨r, w', h1, h2, h3, h4⟩ := run_fop (P := P) .quo (fun x y => (double.read x).quotient (double.fractionBits + 2) (double.read y)) (fun _ _ => rfl) (.inr (.inr (.inr rfl))) t a (P2 (1023 + p)) w
 refine ⟨r, w', h1, drew_bel w h2, h3, h4.trans ?_⟩
 unfold ov
 rw [fdiv_cn ha (by omega) (by omega)]; rfl
theorem fz_in {w : World} {b n c : Nat} {X : List Nat} (h : Fz w b X) (hn : X.length = n) (hl : n ≤ 100000) (h1 : n ≤ c) (h2 : c ≤ 9223372036854775807) : In w (.slice (some ⟨b, 0, none⟩) n c) X := by
 subst hn
 exact ⟨_, c, rfl, h1, h2, h.fr (by omega), fun e => by cases e⟩
end Lc
namespace Yh
open Ieee Go Go.RowKit Go.Proofs Go.Proofs.YtnbdoidccacdnaaGreatDoor Ow Dt Gp W0 S4 M0 M1 M3 W4 W5
inductive Ent where
 | blk (b : Nat) (t : TypeId) (cs : List Value)
 | row (b : Nat) (X : List Nat)
def Ent.b : Ent → Nat
 | .blk b _ _ => b
 | .row b _ => b
def Ent.ok (w : World) : Ent → Prop
 | .blk b t cs => Blk w b t cs
 | .row b X => Fz w b X
theorem Ent.ok.lt {w : World} {e : Ent} (h : e.ok w) : e.b < w.heap.size := by
 cases e with
 | blk b t cs => exact Blk.lt h
 | row b X => exact Fz.lt h
theorem Ent.ok.same {w w' : World} {e : Ent} (h : e.ok w) (g : w'.heap[e.b]? = w.heap[e.b]?) : e.ok w' := by
 cases e with
 | blk b t cs => exact ⟨(show w'.heap[b]? = _ from g).trans (show Blk w b t cs from h).out⟩
 | row b X =>
  obtain ⟨cs, h1, h2⟩ := (show Fz w b X from h).out
  exact ⟨cs, ⟨(show w'.heap[b]? = _ from g).trans h1.out⟩, h2⟩
structure Hp (W0 w : World) (L : List Ent) : Prop where
 bel : Bel W0 w
 ge : ∀ e ∈ L, W0.heap.size ≤ e.b
 nd : (L.map Ent.b).Nodup
 ok : ∀ e ∈ L, e.ok w
theorem Hp.nil {W0 w : World} (g : Bel W0 w) : Hp W0 w [] := ⟨g, fun _ h => (List.not_mem_nil h).elim, List.nodup_nil, fun _ h => (List.not_mem_nil h).elim⟩
section
variable {W0 w w' : World} {L : List Ent} {b b' k : Nat} {t : TypeId} {cs : List Value} {X Y : List Nat} {e e' : Ent} {v : Value}
theorem Hp.get (h : Hp W0 w L) (i : Nat) (hi : L[i]? = some e) : e.ok w := h.ok e (List.mem_of_getElem? hi)
theorem Hp.blk (h : Hp W0 w L) (i : Nat) (hi : L[i]? = some (.blk b t cs)) : Blk w b t cs := h.get i hi
theorem Hp.row (h : Hp W0 w L) (i : Nat) (hi : L[i]? = some (.row b X)) : Fz w b X := h.get i hi
theorem Hp.geI (h : Hp W0 w L) (i : Nat) (hi : L[i]? = some e) : W0.heap.size ≤ e.b := h.ge e (List.mem_of_getElem? hi)
theorem nd_ne {l : List Nat} (h : l.Nodup) {i j : Nat} {x y : Nat} (hi : l[i]? = some x) (hj : l[j]? = some y) (hij : i ≠ j) : x ≠ y := by
 obtain ⟨h1, rfl⟩ := List.getElem?_eq_some_iff.1 hi
 obtain ⟨h2, rfl⟩ := List.getElem?_eq_some_iff.1 hj
 intro q
 exact hij ((List.getElem_inj h).1 q)
theorem Hp.ne (h : Hp W0 w L) (i j : Nat) (hi : L[i]? = some e) (hj : L[j]? = some e') (hij : i ≠ j := by decide) : e.b ≠ e'.b :=
 nd_ne h.nd (i := i) (j := j) (by rw [List.getElem?_map, hi]; rfl) (by rw [List.getElem?_map, hj]; rfl) hij
theorem Hp.lt (h : Hp W0 w L) : ∀ e ∈ L, e.b < w.heap.size := fun e he => (h.ok e he).lt
theorem Hp.grow (h : Hp W0 w L) (g : Bel w w') : Hp W0 w' L := ⟨h.bel.trans g, h.ge, h.nd, fun e he => (h.ok e he).same (g.block (h.lt e he))⟩
theorem Hp.drew (h : Hp W0 w L) : Hp W0 w.drew L := h.grow (Bel.refl w).drew
theorem Hp.new (h : Hp W0 w L) (g : Bel w w') (k : e.ok w') (hb : w.heap.size ≤ e.b) : Hp W0 w' (e :: L) := by
 have h' := h.grow g
 have s := h.bel.size
 refine ⟨h'.bel, ?_, ?_, ?_⟩
 ·intro x hx
  rcases List.mem_cons.1 hx with rfl | hx
  ·omega
  ·exact h.ge x hx
 ·simp only [List.map_cons, List.nodup_cons]
  refine ⟨fun q => ?_, h.nd⟩
  obtain ⟨x, hx, hxe⟩ := List.mem_map.1 q
  have := h.lt x hx
  omega
 ·intro x hx
  rcases List.mem_cons.1 hx with rfl | hx
  ·exact k
  ·exact h'.ok x hx
theorem Hp.turn (h : Hp W0 w L) (i : Nat) (hi : L[i]? = some e) (os : w'.os = w.os) (tp : w'.tape = w.tape) (ou : w'.output = w.output) (sz : w.heap.size ≤ w'.heap.size) (bl : ∀ k, k < w.heap.size → k ≠ e.b → w'.heap[k]? = w.heap[k]?)
    (e' : Ent) (hb : e'.b = e.b) (k : e'.ok w') : Hp W0 w' (L.set i e') := by
  have hlen := (List.getElem?_eq_some_iff.1 hi).1
  have hge := h.geI i hi
  refine ⟨⟨h.bel.out.trans ⟨os, tp, ou, sz, fun j hj => bl j (Nat.lt_of_lt_of_le hj h.bel.size) (by omega)⟩⟩, ?_, ?_, ?_⟩
  · intro x hx
    rcases List.mem_or_eq_of_mem_set hx with hx | rfl
    · exact h.ge x hx
    · omega
  · have : (L.set i e').map Ent.b = L.map Ent.b := by
      rw [List.map_set, hb]
      apply List.ext_getElem?
      intro j
      rw [List.getElem?_set]
      split
      · rename_i q; subst q
        rw [List.getElem?_map, hi]; simp [hlen]
      · rfl
    rw [this]; exact h.nd
  · intro x hx
    obtain ⟨j, hj⟩ := List.mem_iff_getElem?.1 hx
    rw [List.getElem?_set] at hj
    split at hj
    · first
      | (split at hj
         · cases hj; exact k
         · cases hj)
      | (cases hj; exact k)
    · rename_i q
      have hx' := List.mem_of_getElem? hj
      exact (h.ok x hx').same (bl x.b (h.lt x hx') (Ne.symm (h.ne i j hi hj q)))
theorem Hp.set (h : Hp W0 w L) (i : Nat) (hi : L[i]? = some (.blk b t cs)) (k : Nat) (v : Value) : Hp W0 (w.setCell ⟨b, k, none⟩ v) (L.set i (.blk b t (cs.set k v))) :=
 h.turn (w' := w.setCell ⟨b, k, none⟩ v) i hi rfl rfl rfl (by simp [World.setCell]) (fun j _ hj => Below.heap_setCell w ⟨b, k, none⟩ v j hj) (.blk b t (cs.set k v)) rfl ((h.blk i hi).set k v)
theorem Hp.setF (h : Hp W0 w L) (i : Nat) (hi : L[i]? = some (.row b X)) (k : Nat) {r x : Nat} (hr : r < 2 * sgnW) (hx : cn r = x) : Hp W0 (w.setCell ⟨b, k, none⟩ (.float .f64 r)) (L.set i (.row b (X.set k x))) :=
 h.turn (w' := w.setCell ⟨b, k, none⟩ (.float .f64 r)) i hi rfl rfl rfl (by simp [World.setCell]) (fun j _ hj => Below.heap_setCell w ⟨b, k, none⟩ _ j hj) (.row b (X.set k x)) rfl ((h.row i hi).set k hr hx)
theorem Hp.gr (h : Hp W0 w L) (i : Nat) (hi : L[i]? = some (.row b X)) (g : Gr b w w') (k : Fz w' b Y) : Hp W0 w' (L.set i (.row b Y)) :=
 h.turn i hi g.os g.tape g.output g.size (fun j hj hn => g.block j hj hn) (.row b Y) rfl k
theorem Hp.comb {W1 : World} {M : List Ent} (h : Hp W0 W1 L) (g : Hp W1 w M) : Hp W0 w (M ++ L) := by
 have h' := h.grow g.bel
 have s := h.bel.size
 refine ⟨h'.bel, ?_, ?_, ?_⟩
 ·intro x hx
  rcases List.mem_append.1 hx with hx | hx
  ·exact Nat.le_trans s (g.ge x hx)
  ·exact h.ge x hx
 ·rw [List.map_append, List.nodup_append]
  refine ⟨g.nd, h.nd, fun x hx y hy => ?_⟩
  obtain ⟨a, ha, rfl⟩ := List.mem_map.1 hx
  obtain ⟨c, hc, rfl⟩ := List.mem_map.1 hy
  have := g.ge a ha
  have := h.lt c hc
  omega
 ·intro x hx
  rcases List.mem_append.1 hx with hx | hx
  ·exact g.ok x hx
  ·exact h'.ok x hx
theorem Hp.pick {M : List Ent} (h : Hp W0 w L) (is : List Nat) (hm : M.map some = is.map (fun i => L[i]?)) (hn : is.Nodup := by decide) : Hp W0 w M := by
 have at_ : ∀ m : Nat, m < M.length → ∃ i, is[m]? = some i ∧ L[i]? = M[m]? := fun m hlt => by
  have hl : m < is.length := by have := congrArg List.length hm; simp at this; omega
  refine ⟨is[m], List.getElem?_eq_getElem hl, ?_⟩
  have := congrArg (fun l => l[m]?) hm
  simp only [List.getElem?_map, List.getElem?_eq_getElem hlt, List.getElem?_eq_getElem hl, Option.map_some] at this
  rw [List.getElem?_eq_getElem hlt]
  exact (Option.some.inj this).symm
 have sub : ∀ x ∈ M, x ∈ L := fun x hx => by
  obtain ⟨m, hm'⟩ := List.mem_iff_getElem?.1 hx
  obtain ⟨i, _, hi⟩ := at_ m (List.getElem?_eq_some_iff.1 hm').1
  exact List.mem_of_getElem? (hi.trans hm')
 refine ⟨h.bel, fun x hx => h.ge x (sub x hx), ?_, fun x hx => h.ok x (sub x hx)⟩
 rw [List.nodup_iff_pairwise_ne, List.pairwise_iff_getElem]
 intro i j hi hj hij
 simp only [List.length_map] at hi hj
 simp only [List.getElem_map]
 obtain ⟨a, ha, hai⟩ := at_ i hi
 obtain ⟨c, hc, hcj⟩ := at_ j hj
 rw [List.getElem?_eq_getElem hi] at hai
 rw [List.getElem?_eq_getElem hj] at hcj
 refine h.ne a c hai hcj fun q => ?_
 subst q
 obtain ⟨h1, h1'⟩ := List.getElem?_eq_some_iff.1 ha
 obtain ⟨h2, h2'⟩ := List.getElem?_eq_some_iff.1 hc
 have := (List.getElem_inj hn).1 (h1'.trans h2'.symm)
 omega
theorem Hp.tri {b1 b2 : Nat} (g : Bel w w') (K : Blk w' b t cs) (F1 : Fz w' b1 X) (F2 : Fz w' b2 Y) (ne : b1 ≠ b2 ∧ b ≠ b1 ∧ b ≠ b2) (le : w.heap.size ≤ b ∧ w.heap.size ≤ b1 ∧ w.heap.size ≤ b2) : Hp w w' [.blk b t cs, .row b1 X, .row b2 Y] :=
 ⟨g, fun e he => by simp at he; rcases he with rfl | rfl | rfl <;> (dsimp only [Ent.b]; omega), by simp [Ent.b]; omega, fun e he => by simp at he; rcases he with rfl | rfl | rfl <;> assumption⟩
theorem Hp.base {W1 : World} (h : Hp W1 w L) (g : Bel W0 W1) : Hp W0 w L := ⟨g.trans h.bel, fun e he => Nat.le_trans g.size (h.ge e he), h.nd, h.ok⟩
end
end Yh
namespace Pf
open Go Go.ChangeShapes Go.WideShapes Go.ChangeAt Go.RowKit Go.Proofs.YtnbdoidccacdnaaGreatDoor Ow Dt Gp W0 W4 W5 Pg Pd
theorem wf_lt {b : Nat} (h : (Lit.float .f64 b).wf = true) : b < 2 * sgnW := by
 have : b < 2 ^ 64 := by simpa [Lit.wf] using h
 exact this
end Pf
namespace Ld
open Ieee Go Go.RowKit Go.Proofs Go.Proofs.YtnbdoidccacdnaaGreatDoor Ow Dt Gp I0 U0 W0 S4 S6 P0 M0 M1 M2 M3 P4 P5 P6 P8 Pa Pb W4 W5 W1 W2 Pc Pe Pg Ph Go.Proofs.YtnbdoidccacdnaaGreatDoor.Pi Pj Pk Lv La Pn Po Pq Pr Lc Yh
attribute [local go_sem ↓] Go.wp_at_zero Go.wp_at_succ
theorem wrap_pow {q N : Nat} (h : N = 2 ^ (q % 7)) : wrap64 (2 ^ (q % 7)) = (N : Int) := by
 subst h
 have : q % 7 < 7 := Nat.mod_lt _ (by decide)
 generalize q % 7 = m at *
 have hc : m = 0 ∨ m = 1 ∨ m = 2 ∨ m = 3 ∨ m = 4 ∨ m = 5 ∨ m = 6 := by omega
 rcases hc with rfl | rfl | rfl | rfl | rfl | rfl | rfl <;> decide +kernel
theorem fz_zero {w : World} {b N : Nat} (K : Blk w b 50 (List.replicate N (.float .f64 0))) : Fz w b (List.replicate N 0) :=
 ⟨_, K, fun j hj => ⟨.float .f64 0, by rw [List.getElem?_replicate, if_pos (by simpa using hj)], 0, rfl, by decide, by
  have : j < N := by simpa using hj
  simp [nthN, List.getD_eq_getElem?_getD, List.getElem?_replicate, this, cn_zero]⟩⟩
theorem rep_set (N a : Nat) : (List.replicate N 0).set 0 a = delta N a := by
 apply List.ext_getElem (by simp [delta])
 intro j h1 h2
 have : j < N := by simpa using h1
 simp [delta, List.getElem_set]
 split <;> split <;> first | rfl | omega
theorem up_rep (N a : Nat) : upMap (fun _ => a) (List.replicate N 0) N = List.replicate N a := by
 have := upMap_all (fun _ => a) (List.replicate N 0)
 rw [List.length_replicate] at this
 rw [this]; simp
theorem okP_fin : ∀ p : Fin 7, okP (2 ^ p.val) (2 ^ p.val) = true := by decide +kernel
theorem okP_two {N p : Nat} (h : N = 2 ^ p) (hp : p ≤ 6) : okP N N = true := by subst h; exact okP_fin ⟨p, by omega⟩
theorem two_fr {w : World} {b r s : Nat} (K : Blk w b 50 [.float .f64 r, .float .f64 s]) (hr : r < 2 * sgnW) (hs : s < 2 * sgnW) : Fr w (some ⟨b, 0, none⟩) [cn r, cn s] :=
 Fz.fr ⟨_, K, fun j hj => by
  rcases (show j = 0 ∨ j = 1 by simp at hj; omega) with rfl | rfl
  ·exact ⟨_, rfl, r, rfl, hr, rfl⟩
  ·exact ⟨_, rfl, s, rfl, hs, rfl⟩⟩ (by simp)
theorem one13 {r s q : Nat} (w : World) (T : Tab w) (hr : r < 2 * sgnW) (hs : s < 2 * sgnW) (hq : q < 256) :
  Calls Tryz.prog 6 #[.float .f64 r, .float .f64 s, .int .u8 (q : Int)] w (fun e w' => e = .returned (.bool true) ∧ Bel w w') := by
 have TT := Ho.mk T
 have HR := Ho.mk hr
 have HS := Ho.mk hs
 clear T hr hs
 go_enter Tryz.func6, Tryz.ntmps6
 go_wp2_with fail
 have C1 := Ho.mk (head13 w TT.out)
 (with_reducible refine C1.out.mono ?_); rintro e v2 ⟨rfl, b3⟩
 have b3H := Ho.mk b3
 clear C1 b3
 go_wp2_with fail
 have BM := Ho.mk (Blk.new v2 [.float .f64 r, .float .f64 s] 50)
 have g4 := Ho.mk ((Bel.refl v2).alloc (.cells #[.float .f64 r, .float .f64 s] 50))
 generalize v2.alloc (.cells #[.float .f64 r, .float .f64 s] 50) = v5 at *
 have C6 := Ho.mk (dMid (X := [cn r, cn s]) (n := 2) (c := 2) v5 (two_fr BM.out HR.out HS.out) rfl (by omega))
 (with_reducible refine C6.out.mono ?_); rintro e v7 ⟨z, rfl, b8, hz⟩
 have b8H := Ho.mk b8
 clear C6 b8
 cases z with
 | false =>
  clear hz
  go_wp2
  go_ret
  exact ⟨rfl, ((b3H.out.trans g4.out).trans b8H.out)⟩
 | true =>
  have U1 := Ho.mk (show Up (cn r) 7 from hz rfl 0 (by omega))
  have U2 := Ho.mk (show Up (cn s) 7 from hz rfl 1 (by omega))
  clear hz
  obtain ⟨p, hp⟩ : ∃ p, p = q % 7 := ⟨_, rfl⟩
  have hp6 : p ≤ 6 := by omega
  obtain ⟨N, hN⟩ : ∃ N, N = 2 ^ p := ⟨_, rfl⟩
  have hN1 : 1 ≤ N := by rw [hN]; exact Nat.two_pow_pos p
  have hN2 : N ≤ 64 := by rw [hN]; exact Nat.pow_le_pow_right (by decide) hp6
  have HN := Ho.mk (And.intro (show N = 2 ^ (q % 7) by rw [hN, hp]) (And.intro hN hp6))
  clear hp hN hp6
  go_upto_region 4 with fail
  go_cut [8] from 24 to 27 (fun s8 wy => s8 = .int .i64 (N : Int) ∧ Ho (Bel v7 wy))
  case first =>
   go_wp2_with fail
   go_meet
   exact ⟨congrArg (Value.int .i64) (wrap_pow HN.out.1), ⟨Bel.refl _⟩⟩
  case rest =>
   obtain ⟨rfl, HB⟩ := hcut
   obtain ⟨wy, rfl⟩ : ∃ wy : World, wy = wc := ⟨_, rfl⟩
   have HW := Ho.mk (((b3H.out.trans g4.out).trans b8H.out).trans HB.out)
   go_upto_region 5 with fail
   go_cut [9] from 28 to 32 (fun s9 wy' => ∃ (bv b1 b2 : Nat), s9 = .pointer (some ⟨bv, 0, none⟩) ∧ Ho (Fz wy' b1 (List.replicate N 0)) ∧ Ho (Fz wy' b2 (List.replicate N 0)) ∧ Ho (Blk wy' bv 24 [.slice (some ⟨b1, 0, none⟩) N N, .slice (some ⟨b2, 0, none⟩) N N]) ∧ Ho (Bel wy wy') ∧ Ho (b1 ≠ b2 ∧ bv ≠ b1 ∧ bv ≠ b2) ∧ Ho (wy.heap.size ≤ bv ∧ wy.heap.size ≤ b1 ∧ wy.heap.size ≤ b2))
   case first =>
    refine wp_region_held_drew (S := fun w' => Bel wy w') (by kernel_rfl) (Bel.refl _).drew (fun hHeld => ?_)
    (try dsimp only at hHeld)
    generalize wy.drew = wx at *
    refine rt (i := 0) hHeld ?_
    refine rt (i := 2) hHeld ?_
    try simp only [Act.put, List.setIfInBounds_toArray, List.set_cons_zero, List.set_cons_succ]
    refine I8.rc3 (i := 1) (j := 3) (k := 5) (fun K hK => ?_) (fun K hK => ?_) (fun K hK => ?_)
    have le_b1 := hHeld.size
    obtain ⟨b1, hp_b1⟩ : ∃ p, p = wx.heap.size := ⟨_, rfl⟩
    rw [← hp_b1] at le_b1
    refine wp_mkF rfl _ _ _ rfl N rfl rfl (by omega) (fun wx hk hb hs => ?_)
    rw [← hp_b1] at hk hs
    rw [← hp_b1]
    refine hK.out _ _ (Bel.trans hHeld hb) (fun hHeld => ?_)
    clear hK K
    have K1 := Ho.mk hk
    have lt_b1 : b1 < wx.heap.size := by rw [hs]; exact Nat.lt_succ_self _
    clear hp_b1 hb hs hk
    try simp only [Act.put, List.setIfInBounds_toArray, List.set_cons_zero, List.set_cons_succ]
    refine I6.rc2 (i := 3) (j := 5) (fun K hK => ?_) (fun K hK => ?_)
    have le_b2 := hHeld.size
    obtain ⟨b2, hp_b2⟩ : ∃ p, p = wx.heap.size := ⟨_, rfl⟩
    rw [← hp_b2] at le_b2
    refine wp_mkF rfl _ _ _ rfl N rfl rfl (by omega) (fun wx hk hb hs => ?_)
    rw [← hp_b2] at hk hs
    rw [← hp_b2]
    refine hK.out _ _ (Bel.trans hHeld hb) (fun hHeld => ?_)
    clear hK K
    have K2 := Ho.mk hk
    have K1 := Ho.mk (K1.out.bel hb)
    have lt_b2 : b2 < wx.heap.size := by rw [hs]; exact Nat.lt_succ_self _
    have gt_b1_b2 : b1 < b2 := by omega
    have ne_b1_b2 : b1 ≠ b2 := by omega
    have en_b1_b2 : b2 ≠ b1 := by omega
    have lt_b1 := Nat.lt_of_lt_of_le lt_b1 hb.size
    clear hp_b2 hb hs hk
    refine rt (i := 4) hHeld ?_
    try simp only [Act.put, List.setIfInBounds_toArray, List.set_cons_zero, List.set_cons_succ]
    refine rc (i := 5) (fun K hK => ?_)
    go_simp
    have le_bv := hHeld.size
    refine hK.out _ _ (Bel.alloc hHeld _) (fun hHeld => ?_)
    clear hK K
    have KV := Ho.mk (Blk.new wx [.slice none 0 0, .slice none 0 0] 24)
    have K1 := Ho.mk (K1.out.bel ((Bel.refl wx).alloc (.cells #[.slice none 0 0, .slice none 0 0] 24)))
    have K2 := Ho.mk (K2.out.bel ((Bel.refl wx).alloc (.cells #[.slice none 0 0, .slice none 0 0] 24)))
    have lt_b1 := Nat.lt_of_lt_of_le lt_b1 ((Bel.refl wx).alloc (.cells #[.slice none 0 0, .slice none 0 0] 24)).size
    have lt_b2 := Nat.lt_of_lt_of_le lt_b2 ((Bel.refl wx).alloc (.cells #[.slice none 0 0, .slice none 0 0] 24)).size
    have lt_bv : wx.heap.size < (World.alloc wx (.cells #[.slice none 0 0, .slice none 0 0] 24)).heap.size := by rw [World.size_alloc]; exact Nat.lt_succ_self _
    obtain ⟨bv, hp_bv⟩ : ∃ p, p = wx.heap.size := ⟨_, rfl⟩
    rw [← hp_bv] at KV le_bv lt_bv
    rw [← hp_bv]
    have gt_b1_bv : b1 < bv := by omega
    have ne_b1_bv : b1 ≠ bv := by omega
    have en_b1_bv : bv ≠ b1 := by omega
    have gt_b2_bv : b2 < bv := by omega
    have ne_b2_bv : b2 ≠ bv := by omega
    have en_b2_bv : bv ≠ b2 := by omega
    clear hp_bv
    generalize World.alloc wx (.cells #[.slice none 0 0, .slice none 0 0] 24) = wx at *
    rotate_left
    go_simp
    have le_bv := hHeld.size
    refine hK.out _ _ (Bel.alloc hHeld _) (fun hHeld => ?_)
    clear hK K
    have KV := Ho.mk (Blk.new wx [.slice none 0 0, .slice none 0 0] 24)
    have K1 := Ho.mk (K1.out.bel ((Bel.refl wx).alloc (.cells #[.slice none 0 0, .slice none 0 0] 24)))
    have lt_b1 := Nat.lt_of_lt_of_le lt_b1 ((Bel.refl wx).alloc (.cells #[.slice none 0 0, .slice none 0 0] 24)).size
    have lt_bv : wx.heap.size < (World.alloc wx (.cells #[.slice none 0 0, .slice none 0 0] 24)).heap.size := by rw [World.size_alloc]; exact Nat.lt_succ_self _
    obtain ⟨bv, hp_bv⟩ : ∃ p, p = wx.heap.size := ⟨_, rfl⟩
    rw [← hp_bv] at KV le_bv lt_bv
    rw [← hp_bv]
    have gt_b1_bv : b1 < bv := by omega
    have ne_b1_bv : b1 ≠ bv := by omega
    have en_b1_bv : bv ≠ b1 := by omega
    clear hp_bv
    generalize World.alloc wx (.cells #[.slice none 0 0, .slice none 0 0] 24) = wx at *
    try simp only [Act.put, List.setIfInBounds_toArray, List.set_cons_zero, List.set_cons_succ]
    refine rc (i := 3) (fun K hK => ?_)
    have le_b2 := hHeld.size
    obtain ⟨b2, hp_b2⟩ : ∃ p, p = wx.heap.size := ⟨_, rfl⟩
    rw [← hp_b2] at le_b2
    refine wp_mkF rfl _ _ _ rfl N rfl rfl (by omega) (fun wx hk hb hs => ?_)
    rw [← hp_b2] at hk hs
    rw [← hp_b2]
    refine hK.out _ _ (Bel.trans hHeld hb) (fun hHeld => ?_)
    clear hK K
    have K2 := Ho.mk hk
    have K1 := Ho.mk (K1.out.bel hb)
    have KV := Ho.mk (KV.out.bel hb)
    have lt_b2 : b2 < wx.heap.size := by rw [hs]; exact Nat.lt_succ_self _
    have gt_b1_b2 : b1 < b2 := by omega
    have ne_b1_b2 : b1 ≠ b2 := by omega
    have en_b1_b2 : b2 ≠ b1 := by omega
    have gt_bv_b2 : bv < b2 := by omega
    have ne_bv_b2 : bv ≠ b2 := by omega
    have en_bv_b2 : b2 ≠ bv := by omega
    have lt_b1 := Nat.lt_of_lt_of_le lt_b1 hb.size
    have lt_bv := Nat.lt_of_lt_of_le lt_bv hb.size
    clear hp_b2 hb hs hk
    refine rt (i := 4) hHeld ?_
    rotate_left
    have le_b2 := hHeld.size
    obtain ⟨b2, hp_b2⟩ : ∃ p, p = wx.heap.size := ⟨_, rfl⟩
    rw [← hp_b2] at le_b2
    refine wp_mkF rfl _ _ _ rfl N rfl rfl (by omega) (fun wx hk hb hs => ?_)
    rw [← hp_b2] at hk hs
    rw [← hp_b2]
    refine hK.out _ _ (Bel.trans hHeld hb) (fun hHeld => ?_)
    clear hK K
    have K2 := Ho.mk hk
    have lt_b2 : b2 < wx.heap.size := by rw [hs]; exact Nat.lt_succ_self _
    clear hp_b2 hb hs hk
    try simp only [Act.put, List.setIfInBounds_toArray, List.set_cons_zero, List.set_cons_succ]
    refine I6.rc2 (i := 1) (j := 5) (fun K hK => ?_) (fun K hK => ?_)
    have le_b1 := hHeld.size
    obtain ⟨b1, hp_b1⟩ : ∃ p, p = wx.heap.size := ⟨_, rfl⟩
    rw [← hp_b1] at le_b1
    refine wp_mkF rfl _ _ _ rfl N rfl rfl (by omega) (fun wx hk hb hs => ?_)
    rw [← hp_b1] at hk hs
    rw [← hp_b1]
    refine hK.out _ _ (Bel.trans hHeld hb) (fun hHeld => ?_)
    clear hK K
    have K1 := Ho.mk hk
    have K2 := Ho.mk (K2.out.bel hb)
    have lt_b1 : b1 < wx.heap.size := by rw [hs]; exact Nat.lt_succ_self _
    have gt_b2_b1 : b2 < b1 := by omega
    have ne_b2_b1 : b2 ≠ b1 := by omega
    have en_b2_b1 : b1 ≠ b2 := by omega
    have lt_b2 := Nat.lt_of_lt_of_le lt_b2 hb.size
    clear hp_b1 hb hs hk
    refine rt (i := 4) hHeld ?_
    try simp only [Act.put, List.setIfInBounds_toArray, List.set_cons_zero, List.set_cons_succ]
    refine rc (i := 5) (fun K hK => ?_)
    go_simp
    have le_bv := hHeld.size
    refine hK.out _ _ (Bel.alloc hHeld _) (fun hHeld => ?_)
    clear hK K
    have KV := Ho.mk (Blk.new wx [.slice none 0 0, .slice none 0 0] 24)
    have K2 := Ho.mk (K2.out.bel ((Bel.refl wx).alloc (.cells #[.slice none 0 0, .slice none 0 0] 24)))
    have K1 := Ho.mk (K1.out.bel ((Bel.refl wx).alloc (.cells #[.slice none 0 0, .slice none 0 0] 24)))
    have lt_b2 := Nat.lt_of_lt_of_le lt_b2 ((Bel.refl wx).alloc (.cells #[.slice none 0 0, .slice none 0 0] 24)).size
    have lt_b1 := Nat.lt_of_lt_of_le lt_b1 ((Bel.refl wx).alloc (.cells #[.slice none 0 0, .slice none 0 0] 24)).size
    have lt_bv : wx.heap.size < (World.alloc wx (.cells #[.slice none 0 0, .slice none 0 0] 24)).heap.size := by rw [World.size_alloc]; exact Nat.lt_succ_self _
    obtain ⟨bv, hp_bv⟩ : ∃ p, p = wx.heap.size := ⟨_, rfl⟩
    rw [← hp_bv] at KV le_bv lt_bv
    rw [← hp_bv]
    have gt_b2_bv : b2 < bv := by omega
    have ne_b2_bv : b2 ≠ bv := by omega
    have en_b2_bv : bv ≠ b2 := by omega
    have gt_b1_bv : b1 < bv := by omega
    have ne_b1_bv : b1 ≠ bv := by omega
    have en_b1_bv : bv ≠ b1 := by omega
    clear hp_bv
    generalize World.alloc wx (.cells #[.slice none 0 0, .slice none 0 0] 24) = wx at *
    rotate_left
    go_simp
    have le_bv := hHeld.size
    refine hK.out _ _ (Bel.alloc hHeld _) (fun hHeld => ?_)
    clear hK K
    have KV := Ho.mk (Blk.new wx [.slice none 0 0, .slice none 0 0] 24)
    have K2 := Ho.mk (K2.out.bel ((Bel.refl wx).alloc (.cells #[.slice none 0 0, .slice none 0 0] 24)))
    have lt_b2 := Nat.lt_of_lt_of_le lt_b2 ((Bel.refl wx).alloc (.cells #[.slice none 0 0, .slice none 0 0] 24)).size
    have lt_bv : wx.heap.size < (World.alloc wx (.cells #[.slice none 0 0, .slice none 0 0] 24)).heap.size := by rw [World.size_alloc]; exact Nat.lt_succ_self _
    obtain ⟨bv, hp_bv⟩ : ∃ p, p = wx.heap.size := ⟨_, rfl⟩
    rw [← hp_bv] at KV le_bv lt_bv
    rw [← hp_bv]
    have gt_b2_bv : b2 < bv := by omega
    have ne_b2_bv : b2 ≠ bv := by omega
    have en_b2_bv : bv ≠ b2 := by omega
    clear hp_bv
    generalize World.alloc wx (.cells #[.slice none 0 0, .slice none 0 0] 24) = wx at *
    try simp only [Act.put, List.setIfInBounds_toArray, List.set_cons_zero, List.set_cons_succ]
    refine rc (i := 1) (fun K hK => ?_)
    have le_b1 := hHeld.size
    obtain ⟨b1, hp_b1⟩ : ∃ p, p = wx.heap.size := ⟨_, rfl⟩
    rw [← hp_b1] at le_b1
    refine wp_mkF rfl _ _ _ rfl N rfl rfl (by omega) (fun wx hk hb hs => ?_)
    rw [← hp_b1] at hk hs
    rw [← hp_b1]
    refine hK.out _ _ (Bel.trans hHeld hb) (fun hHeld => ?_)
    clear hK K
    have K1 := Ho.mk hk
    have K2 := Ho.mk (K2.out.bel hb)
    have KV := Ho.mk (KV.out.bel hb)
    have lt_b1 : b1 < wx.heap.size := by rw [hs]; exact Nat.lt_succ_self _
    have gt_b2_b1 : b2 < b1 := by omega
    have ne_b2_b1 : b2 ≠ b1 := by omega
    have en_b2_b1 : b1 ≠ b2 := by omega
    have gt_bv_b1 : bv < b1 := by omega
    have ne_bv_b1 : bv ≠ b1 := by omega
    have en_bv_b1 : b1 ≠ bv := by omega
    have lt_b2 := Nat.lt_of_lt_of_le lt_b2 hb.size
    have lt_bv := Nat.lt_of_lt_of_le lt_bv hb.size
    clear hp_b1 hb hs hk
    refine rt (i := 4) hHeld ?_
    rotate_left
    go_simp
    have le_bv := hHeld.size
    refine hK.out _ _ (Bel.alloc hHeld _) (fun hHeld => ?_)
    clear hK K
    have KV := Ho.mk (Blk.new wx [.slice none 0 0, .slice none 0 0] 24)
    have lt_bv : wx.heap.size < (World.alloc wx (.cells #[.slice none 0 0, .slice none 0 0] 24)).heap.size := by rw [World.size_alloc]; exact Nat.lt_succ_self _
    obtain ⟨bv, hp_bv⟩ : ∃ p, p = wx.heap.size := ⟨_, rfl⟩
    rw [← hp_bv] at KV le_bv lt_bv
    rw [← hp_bv]
    clear hp_bv
    generalize World.alloc wx (.cells #[.slice none 0 0, .slice none 0 0] 24) = wx at *
    try simp only [Act.put, List.setIfInBounds_toArray, List.set_cons_zero, List.set_cons_succ]
    refine I6.rc2 (i := 1) (j := 3) (fun K hK => ?_) (fun K hK => ?_)
    have le_b1 := hHeld.size
    obtain ⟨b1, hp_b1⟩ : ∃ p, p = wx.heap.size := ⟨_, rfl⟩
    rw [← hp_b1] at le_b1
    refine wp_mkF rfl _ _ _ rfl N rfl rfl (by omega) (fun wx hk hb hs => ?_)
    rw [← hp_b1] at hk hs
    rw [← hp_b1]
    refine hK.out _ _ (Bel.trans hHeld hb) (fun hHeld => ?_)
    clear hK K
    have K1 := Ho.mk hk
    have KV := Ho.mk (KV.out.bel hb)
    have lt_b1 : b1 < wx.heap.size := by rw [hs]; exact Nat.lt_succ_self _
    have gt_bv_b1 : bv < b1 := by omega
    have ne_bv_b1 : bv ≠ b1 := by omega
    have en_bv_b1 : b1 ≠ bv := by omega
    have lt_bv := Nat.lt_of_lt_of_le lt_bv hb.size
    clear hp_b1 hb hs hk
    try simp only [Act.put, List.setIfInBounds_toArray, List.set_cons_zero, List.set_cons_succ]
    refine rc (i := 3) (fun K hK => ?_)
    have le_b2 := hHeld.size
    obtain ⟨b2, hp_b2⟩ : ∃ p, p = wx.heap.size := ⟨_, rfl⟩
    rw [← hp_b2] at le_b2
    refine wp_mkF rfl _ _ _ rfl N rfl rfl (by omega) (fun wx hk hb hs => ?_)
    rw [← hp_b2] at hk hs
    rw [← hp_b2]
    refine hK.out _ _ (Bel.trans hHeld hb) (fun hHeld => ?_)
    clear hK K
    have K2 := Ho.mk hk
    have KV := Ho.mk (KV.out.bel hb)
    have K1 := Ho.mk (K1.out.bel hb)
    have lt_b2 : b2 < wx.heap.size := by rw [hs]; exact Nat.lt_succ_self _
    have gt_bv_b2 : bv < b2 := by omega
    have ne_bv_b2 : bv ≠ b2 := by omega
    have en_bv_b2 : b2 ≠ bv := by omega
    have gt_b1_b2 : b1 < b2 := by omega
    have ne_b1_b2 : b1 ≠ b2 := by omega
    have en_b1_b2 : b2 ≠ b1 := by omega
    have lt_bv := Nat.lt_of_lt_of_le lt_bv hb.size
    have lt_b1 := Nat.lt_of_lt_of_le lt_b1 hb.size
    clear hp_b2 hb hs hk
    refine rt (i := 4) hHeld ?_
    rotate_left
    have le_b2 := hHeld.size
    obtain ⟨b2, hp_b2⟩ : ∃ p, p = wx.heap.size := ⟨_, rfl⟩
    rw [← hp_b2] at le_b2
    refine wp_mkF rfl _ _ _ rfl N rfl rfl (by omega) (fun wx hk hb hs => ?_)
    rw [← hp_b2] at hk hs
    rw [← hp_b2]
    refine hK.out _ _ (Bel.trans hHeld hb) (fun hHeld => ?_)
    clear hK K
    have K2 := Ho.mk hk
    have KV := Ho.mk (KV.out.bel hb)
    have lt_b2 : b2 < wx.heap.size := by rw [hs]; exact Nat.lt_succ_self _
    have gt_bv_b2 : bv < b2 := by omega
    have ne_bv_b2 : bv ≠ b2 := by omega
    have en_bv_b2 : b2 ≠ bv := by omega
    have lt_bv := Nat.lt_of_lt_of_le lt_bv hb.size
    clear hp_b2 hb hs hk
    try simp only [Act.put, List.setIfInBounds_toArray, List.set_cons_zero, List.set_cons_succ]
    refine rc (i := 1) (fun K hK => ?_)
    have le_b1 := hHeld.size
    obtain ⟨b1, hp_b1⟩ : ∃ p, p = wx.heap.size := ⟨_, rfl⟩
    rw [← hp_b1] at le_b1
    refine wp_mkF rfl _ _ _ rfl N rfl rfl (by omega) (fun wx hk hb hs => ?_)
    rw [← hp_b1] at hk hs
    rw [← hp_b1]
    refine hK.out _ _ (Bel.trans hHeld hb) (fun hHeld => ?_)
    clear hK K
    have K1 := Ho.mk hk
    have KV := Ho.mk (KV.out.bel hb)
    have K2 := Ho.mk (K2.out.bel hb)
    have lt_b1 : b1 < wx.heap.size := by rw [hs]; exact Nat.lt_succ_self _
    have gt_bv_b1 : bv < b1 := by omega
    have ne_bv_b1 : bv ≠ b1 := by omega
    have en_bv_b1 : b1 ≠ bv := by omega
    have gt_b2_b1 : b2 < b1 := by omega
    have ne_b2_b1 : b2 ≠ b1 := by omega
    have en_b2_b1 : b1 ≠ b2 := by omega
    have lt_bv := Nat.lt_of_lt_of_le lt_bv hb.size
    have lt_b2 := Nat.lt_of_lt_of_le lt_b2 hb.size
    clear hp_b1 hb hs hk
    refine rt (i := 4) hHeld ?_
    rotate_left
    all_goals
     try simp only [Act.put, List.setIfInBounds_toArray, List.set_cons_zero, List.set_cons_succ]
     have y0 := KV.out.cell (i := 0) rfl
     have y1 := KV.out.cell (i := 1) rfl
     have x0 := KV.out.free 0
     have x1 := KV.out.free 1
     refine rc (i := 6) (fun K hK => ?_)
     go_simp
     have K1 := Ho.mk ((K1.out.far (p := ⟨bv, 0, none⟩) (by dsimp only; omega) (.slice (some ⟨b1, 0, none⟩) N N)).far (p := ⟨bv, 1, none⟩) (by dsimp only; omega) (.slice (some ⟨b2, 0, none⟩) N N))
     have K2 := Ho.mk ((K2.out.far (p := ⟨bv, 0, none⟩) (by dsimp only; omega) (.slice (some ⟨b1, 0, none⟩) N N)).far (p := ⟨bv, 1, none⟩) (by dsimp only; omega) (.slice (some ⟨b2, 0, none⟩) N N))
     have KV := Ho.mk ((KV.out.set 0 (.slice (some ⟨b1, 0, none⟩) N N)).set 1 (.slice (some ⟨b2, 0, none⟩) N N))
     simp only [List.set_cons_zero, List.set_cons_succ] at KV
     refine hK.out _ _ ⟨((hHeld.out.setCell (p := ⟨bv, 0, none⟩) (by dsimp only; omega) (.slice (some ⟨b1, 0, none⟩) N N)).setCell (p := ⟨bv, 1, none⟩) (by dsimp only; omega) (.slice (some ⟨b2, 0, none⟩) N N))⟩ (fun hHeld => ?_)
     clear hK K y0 x0 y1 x1
     have lt_b1 : b1 < (World.setCell (World.setCell wx ⟨bv, 0, none⟩ (.slice (some ⟨b1, 0, none⟩) N N)) ⟨bv, 1, none⟩ (.slice (some ⟨b2, 0, none⟩) N N)).heap.size := by simpa [World.setCell] using lt_b1
     have lt_b2 : b2 < (World.setCell (World.setCell wx ⟨bv, 0, none⟩ (.slice (some ⟨b1, 0, none⟩) N N)) ⟨bv, 1, none⟩ (.slice (some ⟨b2, 0, none⟩) N N)).heap.size := by simpa [World.setCell] using lt_b2
     have lt_bv : bv < (World.setCell (World.setCell wx ⟨bv, 0, none⟩ (.slice (some ⟨b1, 0, none⟩) N N)) ⟨bv, 1, none⟩ (.slice (some ⟨b2, 0, none⟩) N N)).heap.size := by simpa [World.setCell] using lt_bv
     generalize World.setCell (World.setCell wx ⟨bv, 0, none⟩ (.slice (some ⟨b1, 0, none⟩) N N)) ⟨bv, 1, none⟩ (.slice (some ⟨b2, 0, none⟩) N N) = wx at *
     try simp only [Act.put, List.setIfInBounds_toArray, List.set_cons_zero, List.set_cons_succ]
     refine wpAnyH_done (by kernel_rfl) ?_ _
     go_wp2_with fail
     go_meet
     exact ⟨bv, b1, b2, rfl, ⟨fz_zero K1.out⟩, ⟨fz_zero K2.out⟩, KV, ⟨hHeld⟩, ⟨by omega, by omega, by omega⟩, ⟨by omega, by omega, by omega⟩⟩
   case rest =>
    obtain ⟨bv, b1, b2, rfl, Fb1, Fb2, Kbv, HBb, NEb, LEb⟩ := hcut
    obtain ⟨w5, rfl⟩ : ∃ w5 : World, w5 = wc := ⟨_, rfl⟩
    go_upto_region 6 with fail
    go_cut [10] from 33 to 37 (fun s9 wy' => ∃ (bv b1 b2 : Nat), s9 = .pointer (some ⟨bv, 0, none⟩) ∧ Ho (Fz wy' b1 (List.replicate N 0)) ∧ Ho (Fz wy' b2 (List.replicate N 0)) ∧ Ho (Blk wy' bv 24 [.slice (some ⟨b1, 0, none⟩) N N, .slice (some ⟨b2, 0, none⟩) N N]) ∧ Ho (Bel w5 wy') ∧ Ho (b1 ≠ b2 ∧ bv ≠ b1 ∧ bv ≠ b2) ∧ Ho (w5.heap.size ≤ bv ∧ w5.heap.size ≤ b1 ∧ w5.heap.size ≤ b2))
    case first =>
     refine wp_region_held_drew (S := fun w' => Bel w5 w') (by kernel_rfl) (Bel.refl _).drew (fun hHeld => ?_)
     (try dsimp only at hHeld)
     generalize w5.drew = wx at *
     refine rt (i := 0) hHeld ?_
     refine rt (i := 2) hHeld ?_
     try simp only [Act.put, List.setIfInBounds_toArray, List.set_cons_zero, List.set_cons_succ]
     refine I8.rc3 (i := 1) (j := 3) (k := 5) (fun K hK => ?_) (fun K hK => ?_) (fun K hK => ?_)
     have le_b1 := hHeld.size
     obtain ⟨b1, hp_b1⟩ : ∃ p, p = wx.heap.size := ⟨_, rfl⟩
     rw [← hp_b1] at le_b1
     refine wp_mkF rfl _ _ _ rfl N rfl rfl (by omega) (fun wx hk hb hs => ?_)
     rw [← hp_b1] at hk hs
     rw [← hp_b1]
     refine hK.out _ _ (Bel.trans hHeld hb) (fun hHeld => ?_)
     clear hK K
     have K1 := Ho.mk hk
     have lt_b1 : b1 < wx.heap.size := by rw [hs]; exact Nat.lt_succ_self _
     clear hp_b1 hb hs hk
     try simp only [Act.put, List.setIfInBounds_toArray, List.set_cons_zero, List.set_cons_succ]
     refine I6.rc2 (i := 3) (j := 5) (fun K hK => ?_) (fun K hK => ?_)
     have le_b2 := hHeld.size
     obtain ⟨b2, hp_b2⟩ : ∃ p, p = wx.heap.size := ⟨_, rfl⟩
     rw [← hp_b2] at le_b2
     refine wp_mkF rfl _ _ _ rfl N rfl rfl (by omega) (fun wx hk hb hs => ?_)
     rw [← hp_b2] at hk hs
     rw [← hp_b2]
     refine hK.out _ _ (Bel.trans hHeld hb) (fun hHeld => ?_)
     clear hK K
     have K2 := Ho.mk hk
     have K1 := Ho.mk (K1.out.bel hb)
     have lt_b2 : b2 < wx.heap.size := by rw [hs]; exact Nat.lt_succ_self _
     have gt_b1_b2 : b1 < b2 := by omega
     have ne_b1_b2 : b1 ≠ b2 := by omega
     have en_b1_b2 : b2 ≠ b1 := by omega
     have lt_b1 := Nat.lt_of_lt_of_le lt_b1 hb.size
     clear hp_b2 hb hs hk
     refine rt (i := 4) hHeld ?_
     try simp only [Act.put, List.setIfInBounds_toArray, List.set_cons_zero, List.set_cons_succ]
     refine rc (i := 5) (fun K hK => ?_)
     go_simp
     have le_bv := hHeld.size
     refine hK.out _ _ (Bel.alloc hHeld _) (fun hHeld => ?_)
     clear hK K
     have KV := Ho.mk (Blk.new wx [.slice none 0 0, .slice none 0 0] 24)
     have K1 := Ho.mk (K1.out.bel ((Bel.refl wx).alloc (.cells #[.slice none 0 0, .slice none 0 0] 24)))
     have K2 := Ho.mk (K2.out.bel ((Bel.refl wx).alloc (.cells #[.slice none 0 0, .slice none 0 0] 24)))
     have lt_b1 := Nat.lt_of_lt_of_le lt_b1 ((Bel.refl wx).alloc (.cells #[.slice none 0 0, .slice none 0 0] 24)).size
     have lt_b2 := Nat.lt_of_lt_of_le lt_b2 ((Bel.refl wx).alloc (.cells #[.slice none 0 0, .slice none 0 0] 24)).size
     have lt_bv : wx.heap.size < (World.alloc wx (.cells #[.slice none 0 0, .slice none 0 0] 24)).heap.size := by rw [World.size_alloc]; exact Nat.lt_succ_self _
     obtain ⟨bv, hp_bv⟩ : ∃ p, p = wx.heap.size := ⟨_, rfl⟩
     rw [← hp_bv] at KV le_bv lt_bv
     rw [← hp_bv]
     have gt_b1_bv : b1 < bv := by omega
     have ne_b1_bv : b1 ≠ bv := by omega
     have en_b1_bv : bv ≠ b1 := by omega
     have gt_b2_bv : b2 < bv := by omega
     have ne_b2_bv : b2 ≠ bv := by omega
     have en_b2_bv : bv ≠ b2 := by omega
     clear hp_bv
     generalize World.alloc wx (.cells #[.slice none 0 0, .slice none 0 0] 24) = wx at *
     rotate_left
     go_simp
     have le_bv := hHeld.size
     refine hK.out _ _ (Bel.alloc hHeld _) (fun hHeld => ?_)
     clear hK K
     have KV := Ho.mk (Blk.new wx [.slice none 0 0, .slice none 0 0] 24)
     have K1 := Ho.mk (K1.out.bel ((Bel.refl wx).alloc (.cells #[.slice none 0 0, .slice none 0 0] 24)))
     have lt_b1 := Nat.lt_of_lt_of_le lt_b1 ((Bel.refl wx).alloc (.cells #[.slice none 0 0, .slice none 0 0] 24)).size
     have lt_bv : wx.heap.size < (World.alloc wx (.cells #[.slice none 0 0, .slice none 0 0] 24)).heap.size := by rw [World.size_alloc]; exact Nat.lt_succ_self _
     obtain ⟨bv, hp_bv⟩ : ∃ p, p = wx.heap.size := ⟨_, rfl⟩
     rw [← hp_bv] at KV le_bv lt_bv
     rw [← hp_bv]
     have gt_b1_bv : b1 < bv := by omega
     have ne_b1_bv : b1 ≠ bv := by omega
     have en_b1_bv : bv ≠ b1 := by omega
     clear hp_bv
     generalize World.alloc wx (.cells #[.slice none 0 0, .slice none 0 0] 24) = wx at *
     try simp only [Act.put, List.setIfInBounds_toArray, List.set_cons_zero, List.set_cons_succ]
     refine rc (i := 3) (fun K hK => ?_)
     have le_b2 := hHeld.size
     obtain ⟨b2, hp_b2⟩ : ∃ p, p = wx.heap.size := ⟨_, rfl⟩
     rw [← hp_b2] at le_b2
     refine wp_mkF rfl _ _ _ rfl N rfl rfl (by omega) (fun wx hk hb hs => ?_)
     rw [← hp_b2] at hk hs
     rw [← hp_b2]
     refine hK.out _ _ (Bel.trans hHeld hb) (fun hHeld => ?_)
     clear hK K
     have K2 := Ho.mk hk
     have K1 := Ho.mk (K1.out.bel hb)
     have KV := Ho.mk (KV.out.bel hb)
     have lt_b2 : b2 < wx.heap.size := by rw [hs]; exact Nat.lt_succ_self _
     have gt_b1_b2 : b1 < b2 := by omega
     have ne_b1_b2 : b1 ≠ b2 := by omega
     have en_b1_b2 : b2 ≠ b1 := by omega
     have gt_bv_b2 : bv < b2 := by omega
     have ne_bv_b2 : bv ≠ b2 := by omega
     have en_bv_b2 : b2 ≠ bv := by omega
     have lt_b1 := Nat.lt_of_lt_of_le lt_b1 hb.size
     have lt_bv := Nat.lt_of_lt_of_le lt_bv hb.size
     clear hp_b2 hb hs hk
     refine rt (i := 4) hHeld ?_
     rotate_left
     have le_b2 := hHeld.size
     obtain ⟨b2, hp_b2⟩ : ∃ p, p = wx.heap.size := ⟨_, rfl⟩
     rw [← hp_b2] at le_b2
     refine wp_mkF rfl _ _ _ rfl N rfl rfl (by omega) (fun wx hk hb hs => ?_)
     rw [← hp_b2] at hk hs
     rw [← hp_b2]
     refine hK.out _ _ (Bel.trans hHeld hb) (fun hHeld => ?_)
     clear hK K
     have K2 := Ho.mk hk
     have lt_b2 : b2 < wx.heap.size := by rw [hs]; exact Nat.lt_succ_self _
     clear hp_b2 hb hs hk
     try simp only [Act.put, List.setIfInBounds_toArray, List.set_cons_zero, List.set_cons_succ]
     refine I6.rc2 (i := 1) (j := 5) (fun K hK => ?_) (fun K hK => ?_)
     have le_b1 := hHeld.size
     obtain ⟨b1, hp_b1⟩ : ∃ p, p = wx.heap.size := ⟨_, rfl⟩
     rw [← hp_b1] at le_b1
     refine wp_mkF rfl _ _ _ rfl N rfl rfl (by omega) (fun wx hk hb hs => ?_)
     rw [← hp_b1] at hk hs
     rw [← hp_b1]
     refine hK.out _ _ (Bel.trans hHeld hb) (fun hHeld => ?_)
     clear hK K
     have K1 := Ho.mk hk
     have K2 := Ho.mk (K2.out.bel hb)
     have lt_b1 : b1 < wx.heap.size := by rw [hs]; exact Nat.lt_succ_self _
     have gt_b2_b1 : b2 < b1 := by omega
     have ne_b2_b1 : b2 ≠ b1 := by omega
     have en_b2_b1 : b1 ≠ b2 := by omega
     have lt_b2 := Nat.lt_of_lt_of_le lt_b2 hb.size
     clear hp_b1 hb hs hk
     refine rt (i := 4) hHeld ?_
     try simp only [Act.put, List.setIfInBounds_toArray, List.set_cons_zero, List.set_cons_succ]
     refine rc (i := 5) (fun K hK => ?_)
     go_simp
     have le_bv := hHeld.size
     refine hK.out _ _ (Bel.alloc hHeld _) (fun hHeld => ?_)
     clear hK K
     have KV := Ho.mk (Blk.new wx [.slice none 0 0, .slice none 0 0] 24)
     have K2 := Ho.mk (K2.out.bel ((Bel.refl wx).alloc (.cells #[.slice none 0 0, .slice none 0 0] 24)))
     have K1 := Ho.mk (K1.out.bel ((Bel.refl wx).alloc (.cells #[.slice none 0 0, .slice none 0 0] 24)))
     have lt_b2 := Nat.lt_of_lt_of_le lt_b2 ((Bel.refl wx).alloc (.cells #[.slice none 0 0, .slice none 0 0] 24)).size
     have lt_b1 := Nat.lt_of_lt_of_le lt_b1 ((Bel.refl wx).alloc (.cells #[.slice none 0 0, .slice none 0 0] 24)).size
     have lt_bv : wx.heap.size < (World.alloc wx (.cells #[.slice none 0 0, .slice none 0 0] 24)).heap.size := by rw [World.size_alloc]; exact Nat.lt_succ_self _
     obtain ⟨bv, hp_bv⟩ : ∃ p, p = wx.heap.size := ⟨_, rfl⟩
     rw [← hp_bv] at KV le_bv lt_bv
     rw [← hp_bv]
     have gt_b2_bv : b2 < bv := by omega
     have ne_b2_bv : b2 ≠ bv := by omega
     have en_b2_bv : bv ≠ b2 := by omega
     have gt_b1_bv : b1 < bv := by omega
     have ne_b1_bv : b1 ≠ bv := by omega
     have en_b1_bv : bv ≠ b1 := by omega
     clear hp_bv
     generalize World.alloc wx (.cells #[.slice none 0 0, .slice none 0 0] 24) = wx at *
     rotate_left
     go_simp
     have le_bv := hHeld.size
     refine hK.out _ _ (Bel.alloc hHeld _) (fun hHeld => ?_)
     clear hK K
     have KV := Ho.mk (Blk.new wx [.slice none 0 0, .slice none 0 0] 24)
     have K2 := Ho.mk (K2.out.bel ((Bel.refl wx).alloc (.cells #[.slice none 0 0, .slice none 0 0] 24)))
     have lt_b2 := Nat.lt_of_lt_of_le lt_b2 ((Bel.refl wx).alloc (.cells #[.slice none 0 0, .slice none 0 0] 24)).size
     have lt_bv : wx.heap.size < (World.alloc wx (.cells #[.slice none 0 0, .slice none 0 0] 24)).heap.size := by rw [World.size_alloc]; exact Nat.lt_succ_self _
     obtain ⟨bv, hp_bv⟩ : ∃ p, p = wx.heap.size := ⟨_, rfl⟩
     rw [← hp_bv] at KV le_bv lt_bv
     rw [← hp_bv]
     have gt_b2_bv : b2 < bv := by omega
     have ne_b2_bv : b2 ≠ bv := by omega
     have en_b2_bv : bv ≠ b2 := by omega
     clear hp_bv
     generalize World.alloc wx (.cells #[.slice none 0 0, .slice none 0 0] 24) = wx at *
     try simp only [Act.put, List.setIfInBounds_toArray, List.set_cons_zero, List.set_cons_succ]
     refine rc (i := 1) (fun K hK => ?_)
     have le_b1 := hHeld.size
     obtain ⟨b1, hp_b1⟩ : ∃ p, p = wx.heap.size := ⟨_, rfl⟩
     rw [← hp_b1] at le_b1
     refine wp_mkF rfl _ _ _ rfl N rfl rfl (by omega) (fun wx hk hb hs => ?_)
     rw [← hp_b1] at hk hs
     rw [← hp_b1]
     refine hK.out _ _ (Bel.trans hHeld hb) (fun hHeld => ?_)
     clear hK K
     have K1 := Ho.mk hk
     have K2 := Ho.mk (K2.out.bel hb)
     have KV := Ho.mk (KV.out.bel hb)
     have lt_b1 : b1 < wx.heap.size := by rw [hs]; exact Nat.lt_succ_self _
     have gt_b2_b1 : b2 < b1 := by omega
     have ne_b2_b1 : b2 ≠ b1 := by omega
     have en_b2_b1 : b1 ≠ b2 := by omega
     have gt_bv_b1 : bv < b1 := by omega
     have ne_bv_b1 : bv ≠ b1 := by omega
     have en_bv_b1 : b1 ≠ bv := by omega
     have lt_b2 := Nat.lt_of_lt_of_le lt_b2 hb.size
     have lt_bv := Nat.lt_of_lt_of_le lt_bv hb.size
     clear hp_b1 hb hs hk
     refine rt (i := 4) hHeld ?_
     rotate_left
     go_simp
     have le_bv := hHeld.size
     refine hK.out _ _ (Bel.alloc hHeld _) (fun hHeld => ?_)
     clear hK K
     have KV := Ho.mk (Blk.new wx [.slice none 0 0, .slice none 0 0] 24)
     have lt_bv : wx.heap.size < (World.alloc wx (.cells #[.slice none 0 0, .slice none 0 0] 24)).heap.size := by rw [World.size_alloc]; exact Nat.lt_succ_self _
     obtain ⟨bv, hp_bv⟩ : ∃ p, p = wx.heap.size := ⟨_, rfl⟩
     rw [← hp_bv] at KV le_bv lt_bv
     rw [← hp_bv]
     clear hp_bv
     generalize World.alloc wx (.cells #[.slice none 0 0, .slice none 0 0] 24) = wx at *
     try simp only [Act.put, List.setIfInBounds_toArray, List.set_cons_zero, List.set_cons_succ]
     refine I6.rc2 (i := 1) (j := 3) (fun K hK => ?_) (fun K hK => ?_)
     have le_b1 := hHeld.size
     obtain ⟨b1, hp_b1⟩ : ∃ p, p = wx.heap.size := ⟨_, rfl⟩
     rw [← hp_b1] at le_b1
     refine wp_mkF rfl _ _ _ rfl N rfl rfl (by omega) (fun wx hk hb hs => ?_)
     rw [← hp_b1] at hk hs
     rw [← hp_b1]
     refine hK.out _ _ (Bel.trans hHeld hb) (fun hHeld => ?_)
     clear hK K
     have K1 := Ho.mk hk
     have KV := Ho.mk (KV.out.bel hb)
     have lt_b1 : b1 < wx.heap.size := by rw [hs]; exact Nat.lt_succ_self _
     have gt_bv_b1 : bv < b1 := by omega
     have ne_bv_b1 : bv ≠ b1 := by omega
     have en_bv_b1 : b1 ≠ bv := by omega
     have lt_bv := Nat.lt_of_lt_of_le lt_bv hb.size
     clear hp_b1 hb hs hk
     try simp only [Act.put, List.setIfInBounds_toArray, List.set_cons_zero, List.set_cons_succ]
     refine rc (i := 3) (fun K hK => ?_)
     have le_b2 := hHeld.size
     obtain ⟨b2, hp_b2⟩ : ∃ p, p = wx.heap.size := ⟨_, rfl⟩
     rw [← hp_b2] at le_b2
     refine wp_mkF rfl _ _ _ rfl N rfl rfl (by omega) (fun wx hk hb hs => ?_)
     rw [← hp_b2] at hk hs
     rw [← hp_b2]
     refine hK.out _ _ (Bel.trans hHeld hb) (fun hHeld => ?_)
     clear hK K
     have K2 := Ho.mk hk
     have KV := Ho.mk (KV.out.bel hb)
     have K1 := Ho.mk (K1.out.bel hb)
     have lt_b2 : b2 < wx.heap.size := by rw [hs]; exact Nat.lt_succ_self _
     have gt_bv_b2 : bv < b2 := by omega
     have ne_bv_b2 : bv ≠ b2 := by omega
     have en_bv_b2 : b2 ≠ bv := by omega
     have gt_b1_b2 : b1 < b2 := by omega
     have ne_b1_b2 : b1 ≠ b2 := by omega
     have en_b1_b2 : b2 ≠ b1 := by omega
     have lt_bv := Nat.lt_of_lt_of_le lt_bv hb.size
     have lt_b1 := Nat.lt_of_lt_of_le lt_b1 hb.size
     clear hp_b2 hb hs hk
     refine rt (i := 4) hHeld ?_
     rotate_left
     have le_b2 := hHeld.size
     obtain ⟨b2, hp_b2⟩ : ∃ p, p = wx.heap.size := ⟨_, rfl⟩
     rw [← hp_b2] at le_b2
     refine wp_mkF rfl _ _ _ rfl N rfl rfl (by omega) (fun wx hk hb hs => ?_)
     rw [← hp_b2] at hk hs
     rw [← hp_b2]
     refine hK.out _ _ (Bel.trans hHeld hb) (fun hHeld => ?_)
     clear hK K
     have K2 := Ho.mk hk
     have KV := Ho.mk (KV.out.bel hb)
     have lt_b2 : b2 < wx.heap.size := by rw [hs]; exact Nat.lt_succ_self _
     have gt_bv_b2 : bv < b2 := by omega
     have ne_bv_b2 : bv ≠ b2 := by omega
     have en_bv_b2 : b2 ≠ bv := by omega
     have lt_bv := Nat.lt_of_lt_of_le lt_bv hb.size
     clear hp_b2 hb hs hk
     try simp only [Act.put, List.setIfInBounds_toArray, List.set_cons_zero, List.set_cons_succ]
     refine rc (i := 1) (fun K hK => ?_)
     have le_b1 := hHeld.size
     obtain ⟨b1, hp_b1⟩ : ∃ p, p = wx.heap.size := ⟨_, rfl⟩
     rw [← hp_b1] at le_b1
     refine wp_mkF rfl _ _ _ rfl N rfl rfl (by omega) (fun wx hk hb hs => ?_)
     rw [← hp_b1] at hk hs
     rw [← hp_b1]
     refine hK.out _ _ (Bel.trans hHeld hb) (fun hHeld => ?_)
     clear hK K
     have K1 := Ho.mk hk
     have KV := Ho.mk (KV.out.bel hb)
     have K2 := Ho.mk (K2.out.bel hb)
     have lt_b1 : b1 < wx.heap.size := by rw [hs]; exact Nat.lt_succ_self _
     have gt_bv_b1 : bv < b1 := by omega
     have ne_bv_b1 : bv ≠ b1 := by omega
     have en_bv_b1 : b1 ≠ bv := by omega
     have gt_b2_b1 : b2 < b1 := by omega
     have ne_b2_b1 : b2 ≠ b1 := by omega
     have en_b2_b1 : b1 ≠ b2 := by omega
     have lt_bv := Nat.lt_of_lt_of_le lt_bv hb.size
     have lt_b2 := Nat.lt_of_lt_of_le lt_b2 hb.size
     clear hp_b1 hb hs hk
     refine rt (i := 4) hHeld ?_
     rotate_left
     all_goals
      try simp only [Act.put, List.setIfInBounds_toArray, List.set_cons_zero, List.set_cons_succ]
      have y0 := KV.out.cell (i := 0) rfl
      have y1 := KV.out.cell (i := 1) rfl
      have x0 := KV.out.free 0
      have x1 := KV.out.free 1
      refine rc (i := 6) (fun K hK => ?_)
      go_simp
      have K1 := Ho.mk ((K1.out.far (p := ⟨bv, 0, none⟩) (by dsimp only; omega) (.slice (some ⟨b1, 0, none⟩) N N)).far (p := ⟨bv, 1, none⟩) (by dsimp only; omega) (.slice (some ⟨b2, 0, none⟩) N N))
      have K2 := Ho.mk ((K2.out.far (p := ⟨bv, 0, none⟩) (by dsimp only; omega) (.slice (some ⟨b1, 0, none⟩) N N)).far (p := ⟨bv, 1, none⟩) (by dsimp only; omega) (.slice (some ⟨b2, 0, none⟩) N N))
      have KV := Ho.mk ((KV.out.set 0 (.slice (some ⟨b1, 0, none⟩) N N)).set 1 (.slice (some ⟨b2, 0, none⟩) N N))
      simp only [List.set_cons_zero, List.set_cons_succ] at KV
      refine hK.out _ _ ⟨((hHeld.out.setCell (p := ⟨bv, 0, none⟩) (by dsimp only; omega) (.slice (some ⟨b1, 0, none⟩) N N)).setCell (p := ⟨bv, 1, none⟩) (by dsimp only; omega) (.slice (some ⟨b2, 0, none⟩) N N))⟩ (fun hHeld => ?_)
      clear hK K y0 x0 y1 x1
      have lt_b1 : b1 < (World.setCell (World.setCell wx ⟨bv, 0, none⟩ (.slice (some ⟨b1, 0, none⟩) N N)) ⟨bv, 1, none⟩ (.slice (some ⟨b2, 0, none⟩) N N)).heap.size := by simpa [World.setCell] using lt_b1
      have lt_b2 : b2 < (World.setCell (World.setCell wx ⟨bv, 0, none⟩ (.slice (some ⟨b1, 0, none⟩) N N)) ⟨bv, 1, none⟩ (.slice (some ⟨b2, 0, none⟩) N N)).heap.size := by simpa [World.setCell] using lt_b2
      have lt_bv : bv < (World.setCell (World.setCell wx ⟨bv, 0, none⟩ (.slice (some ⟨b1, 0, none⟩) N N)) ⟨bv, 1, none⟩ (.slice (some ⟨b2, 0, none⟩) N N)).heap.size := by simpa [World.setCell] using lt_bv
      generalize World.setCell (World.setCell wx ⟨bv, 0, none⟩ (.slice (some ⟨b1, 0, none⟩) N N)) ⟨bv, 1, none⟩ (.slice (some ⟨b2, 0, none⟩) N N) = wx at *
      try simp only [Act.put, List.setIfInBounds_toArray, List.set_cons_zero, List.set_cons_succ]
      refine wpAnyH_done (by kernel_rfl) ?_ _
      go_wp2_with fail
      go_meet
      exact ⟨bv, b1, b2, rfl, ⟨fz_zero K1.out⟩, ⟨fz_zero K2.out⟩, KV, ⟨hHeld⟩, ⟨by omega, by omega, by omega⟩, ⟨by omega, by omega, by omega⟩⟩
    case rest =>
     obtain ⟨dv, d1, d2, rfl, Fd1, Fd2, Kdv, HBd, NEd, LEd⟩ := hcut
     obtain ⟨w6, rfl⟩ : ∃ w6 : World, w6 = wc := ⟨_, rfl⟩
     go_upto_region 7 with fail
     go_cut [11] from 38 to 42 (fun s9 wy' => ∃ (bv b1 b2 : Nat), s9 = .pointer (some ⟨bv, 0, none⟩) ∧ Ho (Fz wy' b1 (List.replicate N 0)) ∧ Ho (Fz wy' b2 (List.replicate N 0)) ∧ Ho (Blk wy' bv 24 [.slice (some ⟨b1, 0, none⟩) N N, .slice (some ⟨b2, 0, none⟩) N N]) ∧ Ho (Bel w6 wy') ∧ Ho (b1 ≠ b2 ∧ bv ≠ b1 ∧ bv ≠ b2) ∧ Ho (w6.heap.size ≤ bv ∧ w6.heap.size ≤ b1 ∧ w6.heap.size ≤ b2))
     case first =>
      refine wp_region_held_drew (S := fun w' => Bel w6 w') (by kernel_rfl) (Bel.refl _).drew (fun hHeld => ?_)
      (try dsimp only at hHeld)
      generalize w6.drew = wx at *
      refine rt (i := 0) hHeld ?_
      refine rt (i := 2) hHeld ?_
      try simp only [Act.put, List.setIfInBounds_toArray, List.set_cons_zero, List.set_cons_succ]
      refine I8.rc3 (i := 1) (j := 3) (k := 5) (fun K hK => ?_) (fun K hK => ?_) (fun K hK => ?_)
      have le_b1 := hHeld.size
      obtain ⟨b1, hp_b1⟩ : ∃ p, p = wx.heap.size := ⟨_, rfl⟩
      rw [← hp_b1] at le_b1
      refine wp_mkF rfl _ _ _ rfl N rfl rfl (by omega) (fun wx hk hb hs => ?_)
      rw [← hp_b1] at hk hs
      rw [← hp_b1]
      refine hK.out _ _ (Bel.trans hHeld hb) (fun hHeld => ?_)
      clear hK K
      have K1 := Ho.mk hk
      have lt_b1 : b1 < wx.heap.size := by rw [hs]; exact Nat.lt_succ_self _
      clear hp_b1 hb hs hk
      try simp only [Act.put, List.setIfInBounds_toArray, List.set_cons_zero, List.set_cons_succ]
      refine I6.rc2 (i := 3) (j := 5) (fun K hK => ?_) (fun K hK => ?_)
      have le_b2 := hHeld.size
      obtain ⟨b2, hp_b2⟩ : ∃ p, p = wx.heap.size := ⟨_, rfl⟩
      rw [← hp_b2] at le_b2
      refine wp_mkF rfl _ _ _ rfl N rfl rfl (by omega) (fun wx hk hb hs => ?_)
      rw [← hp_b2] at hk hs
      rw [← hp_b2]
      refine hK.out _ _ (Bel.trans hHeld hb) (fun hHeld => ?_)
      clear hK K
      have K2 := Ho.mk hk
      have K1 := Ho.mk (K1.out.bel hb)
      have lt_b2 : b2 < wx.heap.size := by rw [hs]; exact Nat.lt_succ_self _
      have gt_b1_b2 : b1 < b2 := by omega
      have ne_b1_b2 : b1 ≠ b2 := by omega
      have en_b1_b2 : b2 ≠ b1 := by omega
      have lt_b1 := Nat.lt_of_lt_of_le lt_b1 hb.size
      clear hp_b2 hb hs hk
      refine rt (i := 4) hHeld ?_
      try simp only [Act.put, List.setIfInBounds_toArray, List.set_cons_zero, List.set_cons_succ]
      refine rc (i := 5) (fun K hK => ?_)
      go_simp
      have le_bv := hHeld.size
      refine hK.out _ _ (Bel.alloc hHeld _) (fun hHeld => ?_)
      clear hK K
      have KV := Ho.mk (Blk.new wx [.slice none 0 0, .slice none 0 0] 24)
      have K1 := Ho.mk (K1.out.bel ((Bel.refl wx).alloc (.cells #[.slice none 0 0, .slice none 0 0] 24)))
      have K2 := Ho.mk (K2.out.bel ((Bel.refl wx).alloc (.cells #[.slice none 0 0, .slice none 0 0] 24)))
      have lt_b1 := Nat.lt_of_lt_of_le lt_b1 ((Bel.refl wx).alloc (.cells #[.slice none 0 0, .slice none 0 0] 24)).size
      have lt_b2 := Nat.lt_of_lt_of_le lt_b2 ((Bel.refl wx).alloc (.cells #[.slice none 0 0, .slice none 0 0] 24)).size
      have lt_bv : wx.heap.size < (World.alloc wx (.cells #[.slice none 0 0, .slice none 0 0] 24)).heap.size := by rw [World.size_alloc]; exact Nat.lt_succ_self _
      obtain ⟨bv, hp_bv⟩ : ∃ p, p = wx.heap.size := ⟨_, rfl⟩
      rw [← hp_bv] at KV le_bv lt_bv
      rw [← hp_bv]
      have gt_b1_bv : b1 < bv := by omega
      have ne_b1_bv : b1 ≠ bv := by omega
      have en_b1_bv : bv ≠ b1 := by omega
      have gt_b2_bv : b2 < bv := by omega
      have ne_b2_bv : b2 ≠ bv := by omega
      have en_b2_bv : bv ≠ b2 := by omega
      clear hp_bv
      generalize World.alloc wx (.cells #[.slice none 0 0, .slice none 0 0] 24) = wx at *
      rotate_left
      go_simp
      have le_bv := hHeld.size
      refine hK.out _ _ (Bel.alloc hHeld _) (fun hHeld => ?_)
      clear hK K
      have KV := Ho.mk (Blk.new wx [.slice none 0 0, .slice none 0 0] 24)
      have K1 := Ho.mk (K1.out.bel ((Bel.refl wx).alloc (.cells #[.slice none 0 0, .slice none 0 0] 24)))
      have lt_b1 := Nat.lt_of_lt_of_le lt_b1 ((Bel.refl wx).alloc (.cells #[.slice none 0 0, .slice none 0 0] 24)).size
      have lt_bv : wx.heap.size < (World.alloc wx (.cells #[.slice none 0 0, .slice none 0 0] 24)).heap.size := by rw [World.size_alloc]; exact Nat.lt_succ_self _
      obtain ⟨bv, hp_bv⟩ : ∃ p, p = wx.heap.size := ⟨_, rfl⟩
      rw [← hp_bv] at KV le_bv lt_bv
      rw [← hp_bv]
      have gt_b1_bv : b1 < bv := by omega
      have ne_b1_bv : b1 ≠ bv := by omega
      have en_b1_bv : bv ≠ b1 := by omega
      clear hp_bv
      generalize World.alloc wx (.cells #[.slice none 0 0, .slice none 0 0] 24) = wx at *
      try simp only [Act.put, List.setIfInBounds_toArray, List.set_cons_zero, List.set_cons_succ]
      refine rc (i := 3) (fun K hK => ?_)
      have le_b2 := hHeld.size
      obtain ⟨b2, hp_b2⟩ : ∃ p, p = wx.heap.size := ⟨_, rfl⟩
      rw [← hp_b2] at le_b2
      refine wp_mkF rfl _ _ _ rfl N rfl rfl (by omega) (fun wx hk hb hs => ?_)
      rw [← hp_b2] at hk hs
      rw [← hp_b2]
      refine hK.out _ _ (Bel.trans hHeld hb) (fun hHeld => ?_)
      clear hK K
      have K2 := Ho.mk hk
      have K1 := Ho.mk (K1.out.bel hb)
      have KV := Ho.mk (KV.out.bel hb)
      have lt_b2 : b2 < wx.heap.size := by rw [hs]; exact Nat.lt_succ_self _
      have gt_b1_b2 : b1 < b2 := by omega
      have ne_b1_b2 : b1 ≠ b2 := by omega
      have en_b1_b2 : b2 ≠ b1 := by omega
      have gt_bv_b2 : bv < b2 := by omega
      have ne_bv_b2 : bv ≠ b2 := by omega
      have en_bv_b2 : b2 ≠ bv := by omega
      have lt_b1 := Nat.lt_of_lt_of_le lt_b1 hb.size
      have lt_bv := Nat.lt_of_lt_of_le lt_bv hb.size
      clear hp_b2 hb hs hk
      refine rt (i := 4) hHeld ?_
      rotate_left
      have le_b2 := hHeld.size
      obtain ⟨b2, hp_b2⟩ : ∃ p, p = wx.heap.size := ⟨_, rfl⟩
      rw [← hp_b2] at le_b2
      refine wp_mkF rfl _ _ _ rfl N rfl rfl (by omega) (fun wx hk hb hs => ?_)
      rw [← hp_b2] at hk hs
      rw [← hp_b2]
      refine hK.out _ _ (Bel.trans hHeld hb) (fun hHeld => ?_)
      clear hK K
      have K2 := Ho.mk hk
      have lt_b2 : b2 < wx.heap.size := by rw [hs]; exact Nat.lt_succ_self _
      clear hp_b2 hb hs hk
      try simp only [Act.put, List.setIfInBounds_toArray, List.set_cons_zero, List.set_cons_succ]
      refine I6.rc2 (i := 1) (j := 5) (fun K hK => ?_) (fun K hK => ?_)
      have le_b1 := hHeld.size
      obtain ⟨b1, hp_b1⟩ : ∃ p, p = wx.heap.size := ⟨_, rfl⟩
      rw [← hp_b1] at le_b1
      refine wp_mkF rfl _ _ _ rfl N rfl rfl (by omega) (fun wx hk hb hs => ?_)
      rw [← hp_b1] at hk hs
      rw [← hp_b1]
      refine hK.out _ _ (Bel.trans hHeld hb) (fun hHeld => ?_)
      clear hK K
      have K1 := Ho.mk hk
      have K2 := Ho.mk (K2.out.bel hb)
      have lt_b1 : b1 < wx.heap.size := by rw [hs]; exact Nat.lt_succ_self _
      have gt_b2_b1 : b2 < b1 := by omega
      have ne_b2_b1 : b2 ≠ b1 := by omega
      have en_b2_b1 : b1 ≠ b2 := by omega
      have lt_b2 := Nat.lt_of_lt_of_le lt_b2 hb.size
      clear hp_b1 hb hs hk
      refine rt (i := 4) hHeld ?_
      try simp only [Act.put, List.setIfInBounds_toArray, List.set_cons_zero, List.set_cons_succ]
      refine rc (i := 5) (fun K hK => ?_)
      go_simp
      have le_bv := hHeld.size
      refine hK.out _ _ (Bel.alloc hHeld _) (fun hHeld => ?_)
      clear hK K
      have KV := Ho.mk (Blk.new wx [.slice none 0 0, .slice none 0 0] 24)
      have K2 := Ho.mk (K2.out.bel ((Bel.refl wx).alloc (.cells #[.slice none 0 0, .slice none 0 0] 24)))
      have K1 := Ho.mk (K1.out.bel ((Bel.refl wx).alloc (.cells #[.slice none 0 0, .slice none 0 0] 24)))
      have lt_b2 := Nat.lt_of_lt_of_le lt_b2 ((Bel.refl wx).alloc (.cells #[.slice none 0 0, .slice none 0 0] 24)).size
      have lt_b1 := Nat.lt_of_lt_of_le lt_b1 ((Bel.refl wx).alloc (.cells #[.slice none 0 0, .slice none 0 0] 24)).size
      have lt_bv : wx.heap.size < (World.alloc wx (.cells #[.slice none 0 0, .slice none 0 0] 24)).heap.size := by rw [World.size_alloc]; exact Nat.lt_succ_self _
      obtain ⟨bv, hp_bv⟩ : ∃ p, p = wx.heap.size := ⟨_, rfl⟩
      rw [← hp_bv] at KV le_bv lt_bv
      rw [← hp_bv]
      have gt_b2_bv : b2 < bv := by omega
      have ne_b2_bv : b2 ≠ bv := by omega
      have en_b2_bv : bv ≠ b2 := by omega
      have gt_b1_bv : b1 < bv := by omega
      have ne_b1_bv : b1 ≠ bv := by omega
      have en_b1_bv : bv ≠ b1 := by omega
      clear hp_bv
      generalize World.alloc wx (.cells #[.slice none 0 0, .slice none 0 0] 24) = wx at *
      rotate_left
      go_simp
      have le_bv := hHeld.size
      refine hK.out _ _ (Bel.alloc hHeld _) (fun hHeld => ?_)
      clear hK K
      have KV := Ho.mk (Blk.new wx [.slice none 0 0, .slice none 0 0] 24)
      have K2 := Ho.mk (K2.out.bel ((Bel.refl wx).alloc (.cells #[.slice none 0 0, .slice none 0 0] 24)))
      have lt_b2 := Nat.lt_of_lt_of_le lt_b2 ((Bel.refl wx).alloc (.cells #[.slice none 0 0, .slice none 0 0] 24)).size
      have lt_bv : wx.heap.size < (World.alloc wx (.cells #[.slice none 0 0, .slice none 0 0] 24)).heap.size := by rw [World.size_alloc]; exact Nat.lt_succ_self _
      obtain ⟨bv, hp_bv⟩ : ∃ p, p = wx.heap.size := ⟨_, rfl⟩
      rw [← hp_bv] at KV le_bv lt_bv
      rw [← hp_bv]
      have gt_b2_bv : b2 < bv := by omega
      have ne_b2_bv : b2 ≠ bv := by omega
      have en_b2_bv : bv ≠ b2 := by omega
      clear hp_bv
      generalize World.alloc wx (.cells #[.slice none 0 0, .slice none 0 0] 24) = wx at *
      try simp only [Act.put, List.setIfInBounds_toArray, List.set_cons_zero, List.set_cons_succ]
      refine rc (i := 1) (fun K hK => ?_)
      have le_b1 := hHeld.size
      obtain ⟨b1, hp_b1⟩ : ∃ p, p = wx.heap.size := ⟨_, rfl⟩
      rw [← hp_b1] at le_b1
      refine wp_mkF rfl _ _ _ rfl N rfl rfl (by omega) (fun wx hk hb hs => ?_)
      rw [← hp_b1] at hk hs
      rw [← hp_b1]
      refine hK.out _ _ (Bel.trans hHeld hb) (fun hHeld => ?_)
      clear hK K
      have K1 := Ho.mk hk
      have K2 := Ho.mk (K2.out.bel hb)
      have KV := Ho.mk (KV.out.bel hb)
      have lt_b1 : b1 < wx.heap.size := by rw [hs]; exact Nat.lt_succ_self _
      have gt_b2_b1 : b2 < b1 := by omega
      have ne_b2_b1 : b2 ≠ b1 := by omega
      have en_b2_b1 : b1 ≠ b2 := by omega
      have gt_bv_b1 : bv < b1 := by omega
      have ne_bv_b1 : bv ≠ b1 := by omega
      have en_bv_b1 : b1 ≠ bv := by omega
      have lt_b2 := Nat.lt_of_lt_of_le lt_b2 hb.size
      have lt_bv := Nat.lt_of_lt_of_le lt_bv hb.size
      clear hp_b1 hb hs hk
      refine rt (i := 4) hHeld ?_
      rotate_left
      go_simp
      have le_bv := hHeld.size
      refine hK.out _ _ (Bel.alloc hHeld _) (fun hHeld => ?_)
      clear hK K
      have KV := Ho.mk (Blk.new wx [.slice none 0 0, .slice none 0 0] 24)
      have lt_bv : wx.heap.size < (World.alloc wx (.cells #[.slice none 0 0, .slice none 0 0] 24)).heap.size := by rw [World.size_alloc]; exact Nat.lt_succ_self _
      obtain ⟨bv, hp_bv⟩ : ∃ p, p = wx.heap.size := ⟨_, rfl⟩
      rw [← hp_bv] at KV le_bv lt_bv
      rw [← hp_bv]
      clear hp_bv
      generalize World.alloc wx (.cells #[.slice none 0 0, .slice none 0 0] 24) = wx at *
      try simp only [Act.put, List.setIfInBounds_toArray, List.set_cons_zero, List.set_cons_succ]
      refine I6.rc2 (i := 1) (j := 3) (fun K hK => ?_) (fun K hK => ?_)
      have le_b1 := hHeld.size
      obtain ⟨b1, hp_b1⟩ : ∃ p, p = wx.heap.size := ⟨_, rfl⟩
      rw [← hp_b1] at le_b1
      refine wp_mkF rfl _ _ _ rfl N rfl rfl (by omega) (fun wx hk hb hs => ?_)
      rw [← hp_b1] at hk hs
      rw [← hp_b1]
      refine hK.out _ _ (Bel.trans hHeld hb) (fun hHeld => ?_)
      clear hK K
      have K1 := Ho.mk hk
      have KV := Ho.mk (KV.out.bel hb)
      have lt_b1 : b1 < wx.heap.size := by rw [hs]; exact Nat.lt_succ_self _
      have gt_bv_b1 : bv < b1 := by omega
      have ne_bv_b1 : bv ≠ b1 := by omega
      have en_bv_b1 : b1 ≠ bv := by omega
      have lt_bv := Nat.lt_of_lt_of_le lt_bv hb.size
      clear hp_b1 hb hs hk
      try simp only [Act.put, List.setIfInBounds_toArray, List.set_cons_zero, List.set_cons_succ]
      refine rc (i := 3) (fun K hK => ?_)
      have le_b2 := hHeld.size
      obtain ⟨b2, hp_b2⟩ : ∃ p, p = wx.heap.size := ⟨_, rfl⟩
      rw [← hp_b2] at le_b2
      refine wp_mkF rfl _ _ _ rfl N rfl rfl (by omega) (fun wx hk hb hs => ?_)
      rw [← hp_b2] at hk hs
      rw [← hp_b2]
      refine hK.out _ _ (Bel.trans hHeld hb) (fun hHeld => ?_)
      clear hK K
      have K2 := Ho.mk hk
      have KV := Ho.mk (KV.out.bel hb)
      have K1 := Ho.mk (K1.out.bel hb)
      have lt_b2 : b2 < wx.heap.size := by rw [hs]; exact Nat.lt_succ_self _
      have gt_bv_b2 : bv < b2 := by omega
      have ne_bv_b2 : bv ≠ b2 := by omega
      have en_bv_b2 : b2 ≠ bv := by omega
      have gt_b1_b2 : b1 < b2 := by omega
      have ne_b1_b2 : b1 ≠ b2 := by omega
      have en_b1_b2 : b2 ≠ b1 := by omega
      have lt_bv := Nat.lt_of_lt_of_le lt_bv hb.size
      have lt_b1 := Nat.lt_of_lt_of_le lt_b1 hb.size
      clear hp_b2 hb hs hk
      refine rt (i := 4) hHeld ?_
      rotate_left
      have le_b2 := hHeld.size
      obtain ⟨b2, hp_b2⟩ : ∃ p, p = wx.heap.size := ⟨_, rfl⟩
      rw [← hp_b2] at le_b2
      refine wp_mkF rfl _ _ _ rfl N rfl rfl (by omega) (fun wx hk hb hs => ?_)
      rw [← hp_b2] at hk hs
      rw [← hp_b2]
      refine hK.out _ _ (Bel.trans hHeld hb) (fun hHeld => ?_)
      clear hK K
      have K2 := Ho.mk hk
      have KV := Ho.mk (KV.out.bel hb)
      have lt_b2 : b2 < wx.heap.size := by rw [hs]; exact Nat.lt_succ_self _
      have gt_bv_b2 : bv < b2 := by omega
      have ne_bv_b2 : bv ≠ b2 := by omega
      have en_bv_b2 : b2 ≠ bv := by omega
      have lt_bv := Nat.lt_of_lt_of_le lt_bv hb.size
      clear hp_b2 hb hs hk
      try simp only [Act.put, List.setIfInBounds_toArray, List.set_cons_zero, List.set_cons_succ]
      refine rc (i := 1) (fun K hK => ?_)
      have le_b1 := hHeld.size
      obtain ⟨b1, hp_b1⟩ : ∃ p, p = wx.heap.size := ⟨_, rfl⟩
      rw [← hp_b1] at le_b1
      refine wp_mkF rfl _ _ _ rfl N rfl rfl (by omega) (fun wx hk hb hs => ?_)
      rw [← hp_b1] at hk hs
      rw [← hp_b1]
      refine hK.out _ _ (Bel.trans hHeld hb) (fun hHeld => ?_)
      clear hK K
      have K1 := Ho.mk hk
      have KV := Ho.mk (KV.out.bel hb)
      have K2 := Ho.mk (K2.out.bel hb)
      have lt_b1 : b1 < wx.heap.size := by rw [hs]; exact Nat.lt_succ_self _
      have gt_bv_b1 : bv < b1 := by omega
      have ne_bv_b1 : bv ≠ b1 := by omega
      have en_bv_b1 : b1 ≠ bv := by omega
      have gt_b2_b1 : b2 < b1 := by omega
      have ne_b2_b1 : b2 ≠ b1 := by omega
      have en_b2_b1 : b1 ≠ b2 := by omega
      have lt_bv := Nat.lt_of_lt_of_le lt_bv hb.size
      have lt_b2 := Nat.lt_of_lt_of_le lt_b2 hb.size
      clear hp_b1 hb hs hk
      refine rt (i := 4) hHeld ?_
      rotate_left
      all_goals
       try simp only [Act.put, List.setIfInBounds_toArray, List.set_cons_zero, List.set_cons_succ]
       have y0 := KV.out.cell (i := 0) rfl
       have y1 := KV.out.cell (i := 1) rfl
       have x0 := KV.out.free 0
       have x1 := KV.out.free 1
       refine rc (i := 6) (fun K hK => ?_)
       go_simp
       have K1 := Ho.mk ((K1.out.far (p := ⟨bv, 0, none⟩) (by dsimp only; omega) (.slice (some ⟨b1, 0, none⟩) N N)).far (p := ⟨bv, 1, none⟩) (by dsimp only; omega) (.slice (some ⟨b2, 0, none⟩) N N))
       have K2 := Ho.mk ((K2.out.far (p := ⟨bv, 0, none⟩) (by dsimp only; omega) (.slice (some ⟨b1, 0, none⟩) N N)).far (p := ⟨bv, 1, none⟩) (by dsimp only; omega) (.slice (some ⟨b2, 0, none⟩) N N))
       have KV := Ho.mk ((KV.out.set 0 (.slice (some ⟨b1, 0, none⟩) N N)).set 1 (.slice (some ⟨b2, 0, none⟩) N N))
       simp only [List.set_cons_zero, List.set_cons_succ] at KV
       refine hK.out _ _ ⟨((hHeld.out.setCell (p := ⟨bv, 0, none⟩) (by dsimp only; omega) (.slice (some ⟨b1, 0, none⟩) N N)).setCell (p := ⟨bv, 1, none⟩) (by dsimp only; omega) (.slice (some ⟨b2, 0, none⟩) N N))⟩ (fun hHeld => ?_)
       clear hK K y0 x0 y1 x1
       have lt_b1 : b1 < (World.setCell (World.setCell wx ⟨bv, 0, none⟩ (.slice (some ⟨b1, 0, none⟩) N N)) ⟨bv, 1, none⟩ (.slice (some ⟨b2, 0, none⟩) N N)).heap.size := by simpa [World.setCell] using lt_b1
       have lt_b2 : b2 < (World.setCell (World.setCell wx ⟨bv, 0, none⟩ (.slice (some ⟨b1, 0, none⟩) N N)) ⟨bv, 1, none⟩ (.slice (some ⟨b2, 0, none⟩) N N)).heap.size := by simpa [World.setCell] using lt_b2
       have lt_bv : bv < (World.setCell (World.setCell wx ⟨bv, 0, none⟩ (.slice (some ⟨b1, 0, none⟩) N N)) ⟨bv, 1, none⟩ (.slice (some ⟨b2, 0, none⟩) N N)).heap.size := by simpa [World.setCell] using lt_bv
       generalize World.setCell (World.setCell wx ⟨bv, 0, none⟩ (.slice (some ⟨b1, 0, none⟩) N N)) ⟨bv, 1, none⟩ (.slice (some ⟨b2, 0, none⟩) N N) = wx at *
       try simp only [Act.put, List.setIfInBounds_toArray, List.set_cons_zero, List.set_cons_succ]
       refine wpAnyH_done (by kernel_rfl) ?_ _
       go_wp2_with fail
       go_meet
       exact ⟨bv, b1, b2, rfl, ⟨fz_zero K1.out⟩, ⟨fz_zero K2.out⟩, KV, ⟨hHeld⟩, ⟨by omega, by omega, by omega⟩, ⟨by omega, by omega, by omega⟩⟩
     case rest =>
      obtain ⟨ev, e1, e2, rfl, Fe1, Fe2, Kev, HBe, NEe, LEe⟩ := hcut
      obtain ⟨w7, rfl⟩ : ∃ w7 : World, w7 = wc := ⟨_, rfl⟩
      have H := Ho.mk (((Hp.tri HBb.out Kbv.out Fb1.out Fb2.out NEb.out LEb.out).comb (Hp.tri HBd.out Kdv.out Fd1.out Fd2.out NEd.out LEd.out)).comb (Hp.tri HBe.out Kev.out Fe1.out Fe2.out NEe.out LEe.out))
      simp only [List.cons_append, List.nil_append] at H
      clear HBb Kbv Fb1 Fb2 NEb LEb HBd Kdv Fd1 Fd2 NEd LEd HBe Kev Fe1 Fe2 NEe LEe
      have y9 := (H.out.blk 6 rfl).cell (i := 0) rfl
      obtain ⟨_, yc9, _, _⟩ := (H.out.row 7 rfl).at_ (i := 0) (by rw [List.length_replicate]; omega)
      have zc9 := (H.out.row 7 rfl).free (0)
      go_upto_region 9 with fail
      clear y9 yc9 zc9
      have H := Ho.mk (H.out.setF 7 rfl (0) HR.out rfl)
      simp only [List.set_cons_zero, List.set_cons_succ] at H
      generalize World.setCell w7 ⟨b1, 0, none⟩ (.float .f64 r) = w8 at *
      have y10 := (H.out.blk 6 rfl).cell (i := 1) rfl
      obtain ⟨_, yc10, _, _⟩ := (H.out.row 8 rfl).at_ (i := 0) (by rw [List.length_replicate]; omega)
      have zc10 := (H.out.row 8 rfl).free (0)
      go_upto_region 10 with fail
      clear y10 yc10 zc10
      have H := Ho.mk (H.out.setF 8 rfl (0) HS.out rfl)
      simp only [List.set_cons_zero, List.set_cons_succ] at H
      generalize World.setCell w8 ⟨b2, 0, none⟩ (.float .f64 s) = w9 at *
      have eD : ∀ a, (List.replicate N 0).set 0 a = delta N a := fun a => rep_set N a
      rw [eD, eD] at H
      clear eD
      have OV := Ho.mk (fun (a : Nat) (h : a < 2 * sgnW) (w : World) => run_ov (P := Tryz.prog) (Nat.le_succ_of_le HN.out.2.2) 50 h w)
      have cv := (conv_ok ⟨p, by have := HN.out.2.2; omega⟩).1
      dsimp only at cv
      rw [← HN.out.2.1] at cv
      go_upto_region 11 with fail
      go_loopw [12] (fun v wr => ∃ (i : Nat), i ≤ N ∧ v = .int .i64 i ∧ Ho (Hp wy wr [.blk ev 24 [.slice (some ⟨e1, 0, none⟩) N N, .slice (some ⟨e2, 0, none⟩) N N], .row e1 (upMap (fun _ => ov p (cn r)) (List.replicate N 0) i), .row e2 (upMap (fun _ => ov p (cn s)) (List.replicate N 0) i), .blk dv 24 [.slice (some ⟨d1, 0, none⟩) N N, .slice (some ⟨d2, 0, none⟩) N N], .row d1 (upMap (fun _ => cn r) (List.replicate N 0) i), .row d2 (upMap (fun _ => cn s) (List.replicate N 0) i), .blk bv 24 [.slice (some ⟨b1, 0, none⟩) N N, .slice (some ⟨b2, 0, none⟩) N N], .row b1 (delta N (cn r)), .row b2 (delta N (cn s))])) (fun v _ => N - (intOf v).toNat)
      case atStart => exact ⟨0, Nat.zero_le _, rfl, ⟨by simp only [upMap_zero]; exact H.out⟩⟩
      case round =>
       obtain ⟨i, hi, rfl, H⟩ := hrel
       rcases Nat.lt_or_ge i N with hlt | hge
       ·have lu : ∀ (f : Nat → Nat) (k : Nat), k ≤ N → (upMap f (List.replicate N 0) k).length = N := fun f k hk => by rw [upMap_len _ _ (by rw [List.length_replicate]; exact hk), List.length_replicate]
        have LU := Ho.mk lu
        clear lu
        have y13 := (H.out.blk 3 rfl).cell (i := 0) rfl
        obtain ⟨_, yc13, _, _⟩ := (H.out.row 4 rfl).at_ (i := i) (by rw [LU.out _ _ (by omega)]; exact hlt)
        have zc13 := (H.out.row 4 rfl).free (i)
        go_upto_region 14 with fail
        clear y13 yc13 zc13
        have H := Ho.mk (H.out.setF 4 rfl (i) HR.out rfl)
        simp only [List.set_cons_zero, List.set_cons_succ] at H
        generalize World.setCell wr ⟨d1, i, none⟩ (.float .f64 r) = wt13 at *
        have eU : (upMap (fun _ => cn r) (List.replicate N 0) i).set i (cn r) = upMap (fun _ => cn r) (List.replicate N 0) (i + 1) := upMap_set (fun _ => cn r) (List.replicate N 0) (by rw [List.length_replicate]; exact hlt)
        rw [eU] at H
        clear eU
        have y14 := (H.out.blk 3 rfl).cell (i := 1) rfl
        obtain ⟨_, yc14, _, _⟩ := (H.out.row 5 rfl).at_ (i := i) (by rw [LU.out _ _ (by omega)]; exact hlt)
        have zc14 := (H.out.row 5 rfl).free (i)
        go_upto_region 15 with fail
        clear y14 yc14 zc14
        have H := Ho.mk (H.out.setF 5 rfl (i) HS.out rfl)
        simp only [List.set_cons_zero, List.set_cons_succ] at H
        generalize World.setCell wt13 ⟨d2, i, none⟩ (.float .f64 s) = wt14 at *
        have eU : (upMap (fun _ => cn s) (List.replicate N 0) i).set i (cn s) = upMap (fun _ => cn s) (List.replicate N 0) (i + 1) := upMap_set (fun _ => cn s) (List.replicate N 0) (by rw [List.length_replicate]; exact hlt)
        rw [eU] at H
        clear eU
        have y15 := (H.out.blk 0 rfl).cell (i := 0) rfl
        obtain ⟨q15, wq15, hq, bq, ql, qc⟩ := OV.out r HR.out wt14
        have QC := Ho.mk (And.intro ql qc)
        clear ql qc
        have H := Ho.mk (H.out.grow bq)
        obtain ⟨_, yc15, _, _⟩ := (H.out.row 1 rfl).at_ (i := i) (by rw [LU.out _ _ (by omega)]; exact hlt)
        have zc15 := (H.out.row 1 rfl).free (i)
        go_upto_region 16 with fail
        clear y15 yc15 zc15 hq bq
        have H := Ho.mk (H.out.setF 1 rfl (i) QC.out.1 QC.out.2)
        simp only [List.set_cons_zero, List.set_cons_succ] at H
        generalize World.setCell wq15 ⟨e1, i, none⟩ (.float .f64 q15) = wt15 at *
        clear QC
        have eU : (upMap (fun _ => ov p (cn r)) (List.replicate N 0) i).set i (ov p (cn r)) = upMap (fun _ => ov p (cn r)) (List.replicate N 0) (i + 1) := upMap_set (fun _ => ov p (cn r)) (List.replicate N 0) (by rw [List.length_replicate]; exact hlt)
        rw [eU] at H
        clear eU
        have y16 := (H.out.blk 0 rfl).cell (i := 1) rfl
        obtain ⟨q16, wq16, hq, bq, ql, qc⟩ := OV.out s HS.out wt15
        have QC := Ho.mk (And.intro ql qc)
        clear ql qc
        have H := Ho.mk (H.out.grow bq)
        obtain ⟨_, yc16, _, _⟩ := (H.out.row 2 rfl).at_ (i := i) (by rw [LU.out _ _ (by omega)]; exact hlt)
        have zc16 := (H.out.row 2 rfl).free (i)
        go_upto_region 12 with fail
        clear y16 yc16 zc16 hq bq
        have H := Ho.mk (H.out.setF 2 rfl (i) QC.out.1 QC.out.2)
        simp only [List.set_cons_zero, List.set_cons_succ] at H
        generalize World.setCell wq16 ⟨e2, i, none⟩ (.float .f64 q16) = wt16 at *
        clear QC
        have eU : (upMap (fun _ => ov p (cn s)) (List.replicate N 0) i).set i (ov p (cn s)) = upMap (fun _ => ov p (cn s)) (List.replicate N 0) (i + 1) := upMap_set (fun _ => ov p (cn s)) (List.replicate N 0) (by rw [List.length_replicate]; exact hlt)
        rw [eU] at H
        clear eU
        go_wp2_with fail
        go_roundw
        case rel => exact ⟨i + 1, by omega, by simp, H⟩
        case measure => simp [intOf]; omega
       ·obtain rfl : i = N := by omega
        have eA : ∀ a, upMap (fun _ => a) (List.replicate i 0) i = List.replicate i a := fun a => up_rep i a
        simp only [eA] at H
        clear eA
        have y1 := (H.out.blk 6 rfl).cell (i := 0) rfl
        have y2 := (H.out.blk 6 rfl).cell (i := 1) rfl
        go_wp2_with fail
        have okN : okP i i = true := okP_two HN.out.2.1 HN.out.2.2
        obtain ⟨hlog, _, _⟩ := okP_pow okN
        have hp2 : Nat.log2 i = p := by rw [HN.out.2.1]; exact Nat.log2_two_pow
        have eE : ∀ X Y : List Nat, X.length = i → Y.length = i → 0 = errR X Y := fun X Y h1 h2 => by unfold errR; rw [h1, h2, if_pos okN]
        have eI : ∀ X Y : List Nat, X.length = i → Y.length = i → ifR X Y = invN p (X, Y) := fun X Y h1 h2 => by unfold ifR; rw [h1, h2, if_pos okN]; unfold invR; rw [h1, h2, if_pos okN, hp2]
        have n1 := (U1.out.mono (show 0 ≤ 7 by omega)).nm
        have n2 := (U2.out.mono (show 0 ≤ 7 by omega)).nm
        have p7 : p ≤ 7 := Nat.le_succ_of_le HN.out.2.2
        have LA := Ho.mk (show (List.replicate i (ov p (cn r)), List.replicate i (ov p (cn s))) = ifR (delta i (cn r)) (delta i (cn s)) by rw [eI _ _ (delta_len _ _) (delta_len _ _), HN.out.2.1, inv_one p7 n1 n2])
        have LB := Ho.mk (show (delta i (cn r), delta i (cn s)) = ifR (List.replicate i (cn r)) (List.replicate i (cn s)) by rw [eI _ _ List.length_replicate List.length_replicate, HN.out.2.1, inv_alike p7 (U1.out.mono p7) (U2.out.mono p7)])
        have EA := Ho.mk (eE _ _ (delta_len i (cn r)) (delta_len i (cn s)))
        have EB := Ho.mk (eE (List.replicate i (cn r)) (List.replicate i (cn s)) List.length_replicate List.length_replicate)
        clear okN hlog hp2 eE eI n1 n2 p7
        have T1 := Ho.mk (TT.out.bel (HW.out.trans H.out.bel))
        have C1z := Ho.mk (pIfft T1.out (fz_in (n := i) (c := i) ((H.out).row 7 rfl) (delta_len _ _) (by omega) (Nat.le_refl _) (by omega)) (fz_in (n := i) (c := i) ((H.out).row 8 rfl) (delta_len _ _) (by omega) (Nat.le_refl _) (by omega)) (by rw [delta_len]; omega) (by rw [delta_len]; omega) LA.out EA.out)
        (with_reducible refine C1z.out.mono ?_); rintro e v2z ⟨Ra, ca, Qa, da, rfl, ta, b3z⟩
        have b3zH := Ho.mk b3z
        have TA := Ho.mk ta
        clear C1z b3z ta
        simp only [List.length_replicate] at TA
        clear y1 y2
        go_upto_region 18 with fail
        have BA := Ho.mk (Blk.new v2z [.slice Ra i ca, .slice Qa i da] 24)
        have g4z := Ho.mk ((Bel.refl v2z).alloc (.cells #[.slice Ra i ca, .slice Qa i da] 24))
        generalize v2z.alloc (.cells #[.slice Ra i ca, .slice Qa i da] 24) = v5z at *
        have y1 := (((H.out.grow (b3zH.out.trans g4z.out))).blk 3 rfl).cell (i := 0) rfl
        have y2 := (((H.out.grow (b3zH.out.trans g4z.out))).blk 3 rfl).cell (i := 1) rfl
        go_wp2_with fail
        have C6z := Ho.mk (pIfft (T1.out.bel (b3zH.out.trans g4z.out)) (fz_in (n := i) (c := i) (((H.out.grow (b3zH.out.trans g4z.out))).row 4 rfl) List.length_replicate (by omega) (Nat.le_refl _) (by omega)) (fz_in (n := i) (c := i) (((H.out.grow (b3zH.out.trans g4z.out))).row 5 rfl) List.length_replicate (by omega) (Nat.le_refl _) (by omega)) (by rw [List.length_replicate]; omega) (by rw [List.length_replicate]; omega) LB.out EB.out)
        (with_reducible refine C6z.out.mono ?_); rintro e v7z ⟨Rb, cb, Qb, db, rfl, tb, b8z⟩
        have b8zH := Ho.mk b8z
        have TB := Ho.mk tb
        clear C6z b8z tb
        clear y1 y2
        go_upto_region 19 with fail
        have BB := Ho.mk (Blk.new v7z [.slice Rb (delta i (cn r)).length cb, .slice Qb (delta i (cn s)).length db] 24)
        have g9z := Ho.mk ((Bel.refl v7z).alloc (.cells #[.slice Rb (delta i (cn r)).length cb, .slice Qb (delta i (cn s)).length db] 24))
        generalize v7z.alloc (.cells #[.slice Rb (delta i (cn r)).length cb, .slice Qb (delta i (cn s)).length db] 24) = v10z at *
        have y11z := ((BA.out.bel (b8zH.out.trans g9z.out))).cell (i := 0) rfl
        have y12z := ((BA.out.bel (b8zH.out.trans g9z.out))).cell (i := 1) rfl
        have x0 := (((H.out.grow (((b3zH.out.trans g4z.out).trans b8zH.out).trans g9z.out))).blk 0 rfl).cell (i := 0) rfl
        have x1 := (((H.out.grow (((b3zH.out.trans g4z.out).trans b8zH.out).trans g9z.out))).blk 0 rfl).cell (i := 1) rfl
        go_wp2_with fail
        have C13z := Ho.mk (pSame (z := true) (inn (TA.out.bel ((g4z.out.trans b8zH.out).trans g9z.out)).one (by simp; omega)) (inn (TA.out.bel ((g4z.out.trans b8zH.out).trans g9z.out)).two (by simp; omega)) (fz_in (n := i) (c := i) (((H.out.grow (((b3zH.out.trans g4z.out).trans b8zH.out).trans g9z.out))).row 1 rfl) List.length_replicate (by omega) (Nat.le_refl _) (by omega)) (fz_in (n := i) (c := i) (((H.out.grow (((b3zH.out.trans g4z.out).trans b8zH.out).trans g9z.out))).row 2 rfl) List.length_replicate (by omega) (Nat.le_refl _) (by omega)) (by simp; omega) (by simp; omega) (by simp; omega) (by simp; omega) (by simp))
        (with_reducible refine C13z.out.mono ?_); rintro e v14z ⟨rfl, b15z⟩
        have b15zH := Ho.mk b15z
        clear C13z b15z
        clear y11z y12z x0 x1
        have y16z := ((BB.out.bel b15zH.out)).cell (i := 0) rfl
        have y17z := ((BB.out.bel b15zH.out)).cell (i := 1) rfl
        have x0 := (((H.out.grow ((((b3zH.out.trans g4z.out).trans b8zH.out).trans g9z.out).trans b15zH.out))).blk 6 rfl).cell (i := 0) rfl
        have x1 := (((H.out.grow ((((b3zH.out.trans g4z.out).trans b8zH.out).trans g9z.out).trans b15zH.out))).blk 6 rfl).cell (i := 1) rfl
        go_wp2_with fail
        have C18z := Ho.mk (pSame (z := true) (inn (TB.out.bel (g9z.out.trans b15zH.out)).one (by rw [delta_len]; omega)) (inn (TB.out.bel (g9z.out.trans b15zH.out)).two (by rw [delta_len]; omega)) (fz_in (n := i) (c := i) (((H.out.grow ((((b3zH.out.trans g4z.out).trans b8zH.out).trans g9z.out).trans b15zH.out))).row 7 rfl) (delta_len _ _) (by omega) (Nat.le_refl _) (by omega)) (fz_in (n := i) (c := i) (((H.out.grow ((((b3zH.out.trans g4z.out).trans b8zH.out).trans g9z.out).trans b15zH.out))).row 8 rfl) (delta_len _ _) (by omega) (Nat.le_refl _) (by omega)) (by rw [delta_len]; omega) (by rw [delta_len]; omega) (by rw [delta_len]; omega) (by rw [delta_len]; omega) (by simp))
        (with_reducible refine C18z.out.mono ?_); rintro e v19z ⟨rfl, b20z⟩
        have b20zH := Ho.mk b20z
        clear C18z b20z
        go_wp2
        go_ret
        exact ⟨rfl, (HW.out.trans H.out.bel).trans (((((b3zH.out.trans g4z.out).trans b8zH.out).trans g9z.out).trans b15zH.out).trans b20zH.out)⟩
theorem one13_door (a b : Nat) (q : Int) (w : World) (T : Tab w) (ha : (Lit.float .f64 a).wf = true) (hb : (Lit.float .f64 b).wf = true) (hq : 0 ≤ q ∧ q ≤ 255) :
  Calls Tryz.prog 6 #[.float .f64 a, .float .f64 b, .int .u8 q] w (fun e w' => e = .returned (.bool true) ∧ Bel w w') := by
 obtain ⟨n, rfl⟩ : ∃ n : Nat, q = (n : Int) := ⟨q.toNat, by omega⟩
 exact one13 w T (Pf.wf_lt ha) (Pf.wf_lt hb) (by omega)
end Ld
end Go.Proofs.YtnbdoidccacdnaaGreatDoor
