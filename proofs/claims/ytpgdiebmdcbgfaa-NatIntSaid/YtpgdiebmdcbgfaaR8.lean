/-
  The walk of the document's answer to layer 1: Root.
-/
import Derived.Test.YtpgdiebmdcbgfaaR7
set_option linter.unusedVariables false
namespace Go.Proofs.Ytpgdiebmdcbgfaa.R8
open Go.RowKit Go.Proofs.Ytpgdiebmdcbgfaa Go.Proofs.Ytpgdiebmdcbgfaa.Ow Go.Proofs.Ytpgdiebmdcbgfaa.Pl Go.Proofs.Ytpgdiebmdcbgfaa.N2 Go.Proofs.Ytpgdiebmdcbgfaa.R1

theorem blen_len (x : Nat) : blen x ≤ 24 * (digs x).length := by
  refine blen_le.2 (Nat.lt_of_lt_of_le (digs_lt x) ?_)
  rw [show (16777216 : Nat) = 2 ^ 24 from rfl, ← Nat.pow_mul]
  exact Nat.le_refl _
theorem shl1_calls (A0 : Option Addr) (c0 u : Nat) (w : World) (h0 : Rd w A0 [1]) (hc0 : 1 ≤ c0) (hu : u ≤ 100000) :
    Calls Try.prog 29 #[.slice A0 1 c0, .int .i64 (u : Int)] w
      fun e w' => ∃ A c, e = .returned (.slice A (digs (2 ^ u)).length c) ∧ (digs (2 ^ u)).length ≤ c ∧ Rd w' A (digs (2 ^ u)) ∧ Bel w w' := by
  have h := R7.shl_calls A0 c0 1 u (u : Int) w (by rw [digs_one]; exact h0) (by rw [digs_one]; exact hc0) (by rw [digs_one]; simp) (by omega) hu
  rw [Nat.one_mul, digs_one] at h
  exact h

set_option maxHeartbeats 1000000 in
theorem root_calls (A : Option Addr) (c x : Nat) (w : World) (h : Rd w A (digs x)) (hc : (digs x).length ≤ c) (hx : (digs x).length ≤ 4000) :
    Calls Try.prog 33 #[.slice A (digs x).length c] w
      fun e w' => ∃ A c, e = .returned (.slice A (digs (rootN x)).length c) ∧ (digs (rootN x)).length ≤ c ∧ Rd w' A (digs (rootN x)) ∧ Bel w w' := by
  have H := Ho.mk h
  have hb : blen x ≤ 96000 := by have := blen_len x; omega
  have BZ := Ho.mk (bit_zero x)
  have HXL := Ho.mk hx
  obtain ⟨B, hB⟩ : ∃ B, B = blen x := ⟨_, rfl⟩
  have HBB := Ho.mk hB
  rw [← hB] at hb BZ
  have LC := Ho.mk (fun W (g : Rd W A (digs x)) => R3.len_calls A c x W g)
  rw [← hB] at LC
  clear h hB hx
  go_enter Try.func33, Try.ntmps33
  go_wp2_with (go_at_call 27; (with_reducible refine (LC.out _ H.out).mono ?_); rintro e w' ⟨rfl, rfl⟩)
  go_loopw [3, 4] (fun v3 v4 wr => ∃ (k R : Nat) (kk : Int) (A2 : Option Addr) (c2 : Nat), k ≤ (B + 1) / 2 + 1 ∧ v4 = .int .i64 kk ∧ -1 ≤ kk ∧ kk ≤ 100000 ∧ Ho (kk = (k : Int) - 1) ∧ v3 = .slice A2 (digs R).length c2 ∧ (digs R).length ≤ c2 ∧ Ho (Rd wr A2 (digs R)) ∧ Ho (Bel w wr) ∧ Ho (BitAt x k R)) (fun _ v4 _ => (intOf v4 + 1).toNat)
  case atStart => exact ⟨(B + 1) / 2 + 1, 0, _, none, 0, Nat.le_refl _, rfl, by omega, by omega, ⟨by omega⟩, by rw [digs_zero]; rfl, by rw [digs_zero]; simp, ⟨by rw [digs_zero]; exact Rd.nil _ _⟩, ⟨Bel.refl _⟩, BZ⟩
  case round =>
    obtain ⟨k, R, kk, A2, c2, hk, rfl, hk0, hk1, hkk, rfl, hc2, HR, HW, BT⟩ := hrel
    rcases Int.lt_or_le kk 0 with hneg | hpos
    · have h0 : k = 0 := by have := hkk.out; omega
      subst h0
      have e : Ho (rootN x = R) := ⟨bit_end BT.out⟩
      go_wp2
      go_ret
      rw [e.out]
      exact ⟨_, _, rfl, hc2, HR.out, HW.out⟩
    · obtain ⟨u, rfl⟩ := Int.eq_ofNat_of_zero_le hpos
      have hku : k = u + 1 := by have := hkk.out; omega
      subst hku
      have hRl : (digs R).length ≤ 4000 := Nat.le_trans (digs_len_mono (sq_le_self BT.out.le)) HXL.out
      have hTl : (digs (R + 2 ^ u)).length ≤ 4001 := try_len BT.out.le (by rw [← HBB.out]; omega) HXL.out
      have hUl : (digs (2 ^ u)).length ≤ 4001 := Nat.le_trans (digs_len_mono (Nat.le_add_left _ _)) hTl
      obtain ⟨U, hU⟩ : ∃ U, U = 2 ^ u := ⟨_, rfl⟩
      have S1 := Ho.mk (fun (W : World) => shl1_calls (some ⟨W.heap.size, 0, none⟩) 1 u (W.alloc (.cells #[.int .i64 1] 3)) ((Blk.new W [.int .i64 1] 3).rd (l := [1]) (by simp)) (Nat.le_refl _) (by omega))
      rw [← hU] at S1 hTl hUl
      have HU := Ho.mk hU
      clear hU
      obtain ⟨T, hT⟩ : ∃ T, T = R + U := ⟨_, rfl⟩
      have S2 := Ho.mk (fun (A0 A1 : Option Addr) (c0 c1 : Nat) (W : World) (h0 : Rd W A0 (digs R)) (h1 : Rd W A1 (digs U)) => R4.add_calls A0 A1 c0 c1 R U W h0 h1 (by omega) (by omega))
      rw [← hT] at S2 hTl
      have HT := Ho.mk hT
      clear hT
      obtain ⟨Z, hZ⟩ : ∃ Z, Z = T * T := ⟨_, rfl⟩
      have S3 := Ho.mk (fun (A0 A1 : Option Addr) (c0 c1 : Nat) (W : World) (h0 : Rd W A0 (digs T)) (h1 : Rd W A1 (digs T)) => R6.mul_calls A0 A1 c0 c1 T T W h0 h1 (by omega) (by omega))
      rw [← hZ] at S3
      have HZ := Ho.mk hZ
      clear hZ
      go_wp2_with fail
      (with_reducible refine (S1.out wr).mono ?_); rintro e w1 ⟨A3, c3, rfl, hc3, hr3, hb3⟩
      have HB3 := Ho.mk (((Bel.refl wr).alloc _).trans hb3)
      clear hb3
      go_wp2_with fail
      (with_reducible refine (S2.out A2 A3 c2 c3 w1 (HR.out.bel HB3.out) hr3).mono ?_); rintro e w2 ⟨A4, c4, rfl, hc4, hr4, hb4⟩
      have HB4 := Ho.mk (HB3.out.trans hb4)
      clear hr3 hb4 hc3
      go_wp2_with fail
      (with_reducible refine (S3.out A4 A4 c4 c4 w2 hr4 hr4).mono ?_); rintro e w3 ⟨A5, c5, rfl, hc5, hr5, hb5⟩
      have HB5 := Ho.mk (HW.out.trans (HB4.out.trans hb5))
      have HR5 := Ho.mk (hr4.bel hb5)
      have HR6 := Ho.mk (HR.out.bel (HB4.out.trans hb5))
      clear hr4 hb5
      go_wp2_with fail
      (with_reducible refine (R3.cmp_calls A5 A c5 c Z x w3 hr5 (H.out.bel HB5.out)).mono ?_); rintro e w4 ⟨rfl, hn⟩
      have HB6 : Ho (Bel w3 w4) := ⟨by obtain ⟨n, rfl⟩ := hn; exact (Bel.refl w3).drewN n⟩
      clear hn hr5 hc5
      rcases Nat.lt_or_ge x Z with hlt | hge
      · have hd : decide (cmpI (Z : Int) (x : Int) ≤ 0) = false := by rw [cmpI_gt (by omega)]; rfl
        have HLT := Ho.mk hlt
        clear hlt
        generalize cmpI (Z : Int) (x : Int) = q at hd ⊢
        go_wp2
        go_roundw
        case rel => exact ⟨u, R, _, _, _, by omega, rfl, by omega, by omega, ⟨rfl⟩, rfl, hc2, ⟨HR6.out.bel HB6.out⟩, ⟨HB5.out.trans HB6.out⟩, ⟨bit_no BT.out (by rw [← HU.out, ← HT.out, ← HZ.out]; exact HLT.out)⟩⟩
        case measure => simp [intOf]
      · have hd : decide (cmpI (Z : Int) (x : Int) ≤ 0) = true := by
          rcases Nat.lt_or_eq_of_le hge with h1 | h1
          · rw [cmpI_lt (by omega)]; rfl
          · rw [cmpI_eq (by omega)]; rfl
        have HGE := Ho.mk hge
        clear hge
        generalize cmpI (Z : Int) (x : Int) = q at hd ⊢
        go_wp2
        go_roundw
        case rel => exact ⟨u, T, _, _, _, by omega, rfl, by omega, by omega, ⟨rfl⟩, rfl, hc4, ⟨HR5.out.bel HB6.out⟩, ⟨HB5.out.trans HB6.out⟩, ⟨by
          rw [HT.out, HU.out]; exact bit_yes BT.out (by rw [← HU.out, ← HT.out, ← HZ.out]; exact HGE.out)⟩⟩
        case measure => simp [intOf]
end Go.Proofs.Ytpgdiebmdcbgfaa.R8
