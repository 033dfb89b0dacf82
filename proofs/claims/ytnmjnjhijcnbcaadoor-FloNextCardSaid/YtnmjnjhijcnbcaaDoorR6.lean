/-
  The walks of the document's answer to layer 1: Mul.
-/
import Derived.Test.YtnmjnjhijcnbcaaDoorR5
set_option linter.unusedVariables false
namespace Go.Proofs.YtnmjnjhijcnbcaaDoor.R6
open Go.RowKit Go.Proofs.YtnmjnjhijcnbcaaDoor Go.Proofs.YtnmjnjhijcnbcaaDoor.Ow Go.Proofs.YtnmjnjhijcnbcaaDoor.Pl Go.Proofs.YtnmjnjhijcnbcaaDoor.N2 Go.Proofs.YtnmjnjhijcnbcaaDoor.R1

set_option maxHeartbeats 2000000 in
theorem mul_calls (A0 A1 : Option Addr) (c0 c1 x y : Nat) (w : World) (h0 : Rd w A0 (digs x)) (h1 : Rd w A1 (digs y))
    (hx : (digs x).length ≤ 50000) (hy : (digs y).length ≤ 50000) :
    Calls Tryd.prog 62 #[.slice A0 (digs x).length c0, .slice A1 (digs y).length c1] w
      fun e w' => ∃ A c, e = .returned (.slice A (digs (x * y)).length c) ∧ (digs (x * y)).length ≤ c ∧ Rd w' A (digs (x * y)) ∧ Bel w w' := by
  have F0 := Ho.mk (digs_can x).1
  have F1 := Ho.mk (digs_can y).1
  have V0 := Ho.mk (digs_val x)
  have V1 := Ho.mk (digs_val y)
  generalize digs x = l0 at *
  generalize digs y = l1 at *
  have r0 := h0.rdB
  have r1 := h1.rdB
  obtain ⟨bo, hbo⟩ : ∃ bo, bo = w.heap.size := ⟨_, rfl⟩
  rw [← hbo] at r0 r1
  have HBO := Ho.mk hbo
  obtain ⟨m, hm⟩ : ∃ m, m = l0.length + l1.length := ⟨_, rfl⟩
  have HM := Ho.mk hm
  have hm2 : (l0.length : Int) + l1.length = m := by omega
  clear hbo hm
  go_enter Tryd.func62, Tryd.ntmps62
  go_wp2_with (at_make; refine wpList_mk _ rfl _ _ 22 rfl 3 (.int .i64 0) 8 Tryd.underlying22 N2.info3 rfl m rfl rfl (by have := HM.out; omega) (by have := HM.out; omega) ?_; intro w1 hk1 hl1 hs1)
  rw [← HBO.out] at hk1 hs1 ⊢
  have HK1 := Ho.mk hk1
  have HL1 := Ho.mk hl1
  have HS1 : bo < w1.heap.size := by omega
  clear hk1 hl1 hs1 hm2
  go_loopw [6] (fun v wr => ∃ (i : Nat) (o : List Int), i ≤ l0.length ∧ v = .int .i64 i ∧ Ho (Blk wr bo 3 (ints o)) ∧ Ho (Below bo w wr) ∧ bo < wr.heap.size ∧ Ho (o.length = m) ∧ Ho (Lims o) ∧
      Ho (∀ j, i + l1.length ≤ j → nth o j = 0) ∧ Ho (val o = val (l0.take i) * val l1)) (fun v _ => l0.length - (intOf v).toNat)
  case atStart =>
    exact ⟨0, List.replicate m 0, Nat.zero_le _, rfl, ⟨by rw [← ints_rep]; exact HK1.out⟩, ⟨HL1.out.out.mono (by rw [HBO.out]; exact Nat.le_refl _)⟩, HS1, ⟨by simp⟩, ⟨lims_rep _⟩, ⟨fun j _ => nth_rep _ _⟩, ⟨by simp [val_rep, val]⟩⟩
  case round =>
    obtain ⟨i, o, hi, rfl, KO, HW, hs, HLn, HLi, HZ, HV⟩ := hrel
    rcases Nat.lt_or_ge i l0.length with hlt | hge
    · obtain ⟨wo, rfl⟩ : ∃ wo : World, wo = wr := ⟨_, rfl⟩
      obtain ⟨g0, g1⟩ := F0.out.nth i
      go_wp2_with fail
      go_loopw [7, 8] (fun v7 v8 wi => ∃ (k : Nat) (c : Int) (u : List Int), k ≤ l1.length ∧ v8 = .int .i64 k ∧ v7 = .int .i64 c ∧ 0 ≤ c ∧ c < 16777216 ∧ Ho (Blk wi bo 3 (ints u)) ∧ Ho (Below bo w wi) ∧ bo < wi.heap.size ∧ Ho (u.length = m) ∧ Ho (Lims u) ∧
          Ho (∀ j, i + l1.length ≤ j → nth u j = 0) ∧ Ho (val u + 16777216 ^ (i + k) * c = val (l0.take i) * val l1 + 16777216 ^ i * nth l0 i * val (l1.take k))) (fun _ v8 _ => l1.length - (intOf v8).toNat)
      case atStart =>
        exact ⟨0, 0, o, Nat.zero_le _, rfl, rfl, by omega, by omega, KO, HW, hs, HLn, HLi, HZ, ⟨by rw [HV.out]; simp [val]⟩⟩
      case round =>
        obtain ⟨k, c, u, hk, rfl, rfl, hc0, hc1, KU, HWi, hsi, HLn', HLi', HZ', HE⟩ := hrel
        rcases Nat.lt_or_ge k l1.length with hlt' | hge'
        · obtain ⟨ad0, rfl, x0⟩ := (r0.below HWi.out).cell i hlt
          obtain ⟨ad1, rfl, x1⟩ := (r1.below HWi.out).cell k hlt'
          obtain ⟨g10, g11⟩ := F1.out.nth k
          have hik : i + k < u.length := by have := HLn'.out; have := HM.out; omega
          have y0 := KU.out.cell (ints_at u hik)
          have y1 := KU.out.free (i + k)
          obtain ⟨g20, g21⟩ := HLi'.out.nth (i + k)
          obtain ⟨p0, p1⟩ := mul_le_limb g0 g1 g10 g11
          have hikm : (i : Int) + k < m := by have := HLn'.out; omega
          have hik0 : 0 ≤ (i : Int) + k := by omega
          have q1 : IntKind.i64.wrap ((i : Int) + k) = (i : Int) + k := IntWalk.i64_in _ (by omega)
          have q2 : ((i : Int) + k).toNat = i + k := by omega
          have q3 : IntKind.i64.wrap (nth l0 i * nth l1 k) = nth l0 i * nth l1 k := IntWalk.i64_in _ (by omega)
          have q4 : IntKind.i64.wrap (nth u (i + k) + nth l0 i * nth l1 k) = nth u (i + k) + nth l0 i * nth l1 k := IntWalk.i64_in _ (by omega)
          have q5 : IntKind.i64.wrap (nth u (i + k) + nth l0 i * nth l1 k + c) = nth u (i + k) + nth l0 i * nth l1 k + c := IntWalk.i64_in _ (by omega)
          clear hik
          go_wp2
          go_quiet (fail)
          have hbq := (Bel.refl wr).drewN nq
          have KU2 := Ho.mk (KU.out.bel hbq)
          have HW2 := Ho.mk (HWi.out.trans (hbq.out.mono (by omega)))
          have hs2 : bo < (wr.drewN nq).heap.size := Nat.lt_of_lt_of_le hsi hbq.size
          have y2 := KU2.out.cell (ints_at u (i := i + k) (by have := HLn'.out; have := HM.out; omega))
          have y3 := KU2.out.free (i + k)
          clear hbq KU HWi y0 y1 x0 x1 q1 q2 q3 q4 q5 hsi
          generalize wr.drewN nq = w2 at *
          obtain ⟨s, hs'⟩ : ∃ s, s = nth u (i + k) + nth l0 i * nth l1 k + c := ⟨_, rfl⟩
          rw [← hs']
          have s0 : 0 ≤ s := by omega
          have s1 : s ≤ 281474976710655 := by omega
          have HSS := Ho.mk hs'
          clear hs'
          go_wp2
          go_roundw
          case rel =>
            have hk := KU2.out.set (i + k) (.int .i64 (s % 16777216))
            rw [ints_set] at hk
            have hik : i + k < u.length := by have := HLn'.out; have := HM.out; omega
            refine ⟨k + 1, s / 16777216, _, by omega, by simp, rfl, by omega, by omega, ⟨hk⟩, ⟨HW2.out.setCell (by simp) _⟩, by simpa [World.setCell] using hs2, ⟨by rw [List.length_set]; exact HLn'.out⟩, ⟨HLi'.out.set _ (by omega)⟩, ⟨fun j hj => by rw [nth_set_ne (by omega)]; exact HZ'.out j hj⟩, ⟨?_⟩⟩
            rw [val_set _ _ _ hik, val_succ hlt', show i + (k + 1) = (i + k) + 1 from by omega, Int.pow_succ, HSS.out]
            exact mul_step HE.out (Int.pow_add _ _ _)
          case measure => simp [intOf]; omega
        · obtain rfl : k = l1.length := by omega
          have hik : i + l1.length < u.length := by have := HLn'.out; have := HM.out; omega
          have y0 := KU.out.cell (ints_at u hik)
          have y1 := KU.out.free (i + l1.length)
          have hikm : (i : Int) + l1.length < m := by have := HLn'.out; omega
          clear hik
          go_wp2
          go_roundw
          case rel =>
            have hk := KU.out.set (i + l1.length) (.int .i64 c)
            rw [ints_set] at hk
            have hik : i + l1.length < u.length := by have := HLn'.out; have := HM.out; omega
            refine ⟨i + 1, _, by omega, by simp, ⟨hk⟩, ⟨HWi.out.setCell (by simp) _⟩, by simpa [World.setCell] using hsi, ⟨by rw [List.length_set]; exact HLn'.out⟩, ⟨HLi'.out.set _ ⟨hc0, hc1⟩⟩, ⟨fun j hj => by rw [nth_set_ne (by omega)]; exact HZ'.out j (by omega)⟩, ⟨?_⟩⟩
            have hz := HZ'.out (i + l1.length) (Nat.le_refl _)
            have he := HE.out
            rw [List.take_length] at he
            rw [val_set _ _ _ hik, hz, Int.sub_zero, he, val_succ hlt, Int.add_mul]
          case measure => simp [intOf]; omega
    · obtain rfl : i = l0.length := by omega
      have HE : Ho (trimL o = digs (x * y)) := ⟨trim_digs HLi.out (by have := HV.out; rw [List.take_length, V0.out, V1.out] at this; rw [this]; exact (Int.natCast_mul x y).symm)⟩
      have R : Rd wr (some ⟨bo, 0, none⟩) o := KO.out.rd (by have := HLn.out; have := HM.out; omega)
      go_wp2_with (go_at_call 89; rw [← HLn.out]; (with_reducible refine (trim_calls _ _ _ _ R (Nat.le_refl _) (by have := HLn.out; have := HM.out; omega)).mono ?_); rintro e w' ⟨A2, c2, rfl, hc2, hr2, hb2⟩; rw [HE.out] at hc2 hr2)
      go_ret
      rw [← HE.out]
      exact ⟨_, _, rfl, by rw [HE.out]; exact hc2, by rw [HE.out]; exact hr2, (Bel.mk (by rw [← HBO.out]; exact HW.out)).trans hb2⟩
end Go.Proofs.YtnmjnjhijcnbcaaDoor.R6
