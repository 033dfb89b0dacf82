/-
  The walks of the document's answer to layer 1: Right, Cmp, Len, Int.
-/
import Derived.Test.YtnmjnjhijcnbcaaDoorR2
import Derived.Test.YtnmjnjhijcnbcaaDoorN6
import Derived.Test.YtnmjnjhijcnbcaaDoorN5
set_option linter.unusedVariables false
namespace Go.Proofs.YtnmjnjhijcnbcaaDoor.R3
open Go.RowKit Go.Proofs.YtnmjnjhijcnbcaaDoor Go.Proofs.YtnmjnjhijcnbcaaDoor.Ow Go.Proofs.YtnmjnjhijcnbcaaDoor.Pl Go.Proofs.YtnmjnjhijcnbcaaDoor.N2 Go.Proofs.YtnmjnjhijcnbcaaDoor.N7 Go.Proofs.YtnmjnjhijcnbcaaDoor.R1 Go.Proofs.YtnmjnjhijcnbcaaDoor.R2
open Go.Proofs.YtnmjnjhijcnbcaaDoor.N6 (ret_int)

set_option maxHeartbeats 400000 in
theorem right_calls (A : Option Addr) (c : Nat) (l : List Int) (w : World) (h : Rd w A l) :
    Calls Tryd.prog 52 #[.slice A l.length c] w fun e w' => e = .returned (.bool (natB l)) ∧ w = w' := by
  have hm := h.max
  go_enter Tryd.func52, Tryd.ntmps52
  go_wp2
  go_loop [3] (fun v => ∃ i : Nat, i ≤ l.length ∧ v = .int .i64 i ∧ Ho (∀ j, j < i → oddB (nth l j) = false)) (fun v => l.length - (intOf v).toNat)
  case atStart => exact ⟨0, by omega, rfl, ⟨fun j hj => by omega⟩⟩
  case round =>
    obtain ⟨i, hi, rfl, hno⟩ := hrel
    rcases Nat.lt_or_ge i l.length with hlt | hge
    · obtain ⟨ad, rfl, x0⟩ := h.cell i hlt
      cases ho : oddB (nth l i) with
      | true =>
        have any : Ho (natB l = false) := ⟨by
          have : l.any oddB = true := by rw [List.any_eq_true]; exact ⟨l[i], List.getElem_mem _, by rw [nth_lt hlt] at ho; exact ho⟩
          unfold natB; rw [this]; simp⟩
        simp only [oddB, Bool.or_eq_true, decide_eq_true_eq] at ho
        rcases Int.lt_or_le (nth l i) 0 with h0 | h0
        · clear ho hno
          have h0' : decide (nth l i < 0) = true := decide_eq_true h0
          go_wp2
          go_ret
          exact ⟨by rw [any.out]; rfl, rfl⟩
        · have h1 : 16777216 ≤ nth l i := by omega
          have h0' : decide (nth l i < 0) = false := decide_eq_false (by omega)
          have h1' : decide (16777216 ≤ nth l i) = true := decide_eq_true h1
          clear ho hno
          go_wp2
          go_ret
          exact ⟨by rw [any.out]; rfl, rfl⟩
      | false =>
        have hno' : Ho (∀ j, j < i + 1 → oddB (nth l j) = false) := ⟨fun j hj => by
          rcases Nat.lt_or_eq_of_le (Nat.lt_succ_iff.1 hj) with h1 | h1
          · exact hno.out j h1
          · rw [h1]; exact ho⟩
        clear hno
        simp only [oddB, Bool.or_eq_false_iff, decide_eq_false_iff_not] at ho
        obtain ⟨h0, h1⟩ := ho
        have h0' : decide (nth l i < 0) = false := decide_eq_false (by omega)
        have h1' : decide (16777216 ≤ nth l i) = false := decide_eq_false (by omega)
        go_wp2
        go_round
        case rel => exact ⟨i + 1, by omega, by go_num, hno'⟩
        case measure => simp [intOf]; omega
    · obtain rfl : i = l.length := by omega
      have any : l.any oddB = false := by
        rw [List.any_eq_false]; intro x hx
        obtain ⟨j, hj, rfl⟩ := List.getElem_of_mem hx
        have := hno.out j hj
        rw [nth_lt hj] at this; simp [this]
      have hnB : natB l = (decide (l.length ≤ 300) && (l.length == 0 || nth l (l.length - 1) != 0)) := by unfold natB; rw [any]; simp
      have HB := Ho.mk hnB
      clear any hnB hno
      rcases Nat.lt_or_ge 300 l.length with h3 | h3
      · have hd : decide ((l.length : Int) ≤ 300) = false := decide_eq_false (by omega)
        go_wp2
        go_ret
        exact ⟨by rw [HB.out, decide_eq_false (by omega)]; rfl, rfl⟩
      · have hd : decide ((l.length : Int) ≤ 300) = true := decide_eq_true (by omega)
        rcases Nat.eq_zero_or_pos l.length with h0 | h0
        · have hb : ((l.length : Int) == 0) = true := by rw [h0]; rfl
          have H0 := Ho.mk h0
          clear h0
          go_wp2
          go_ret
          exact ⟨by rw [HB.out, H0.out]; rfl, rfl⟩
        · obtain ⟨n, hn⟩ : ∃ n, l.length = n + 1 := ⟨l.length - 1, by omega⟩
          obtain ⟨ad, rfl, x0⟩ := h.cell n (by omega)
          have E := HB.out
          rw [hn, show n + 1 - 1 = n from rfl, decide_eq_true (by omega)] at E
          have EE := Ho.mk E
          have hb : ((l.length : Int) == 0) = false := beq_eq_false_iff_ne.mpr (by omega)
          have hn1 : (l.length : Int) - 1 = (n : Int) := by omega
          clear E hn
          go_wp2
          go_ret
          exact ⟨by rw [EE.out]; simp, rfl⟩

set_option maxHeartbeats 1000000 in
theorem cmp_calls (A0 A1 : Option Addr) (c0 c1 x y : Nat) (w : World) (h0 : Rd w A0 (digs x)) (h1 : Rd w A1 (digs y)) :
    Calls Tryd.prog 59 #[.slice A0 (digs x).length c0, .slice A1 (digs y).length c1] w
      fun e w' => e = .returned (.int .i64 (cmpI x y)) ∧ ∃ n, w' = w.drewN n := by
  have m0 := h0.max
  have m1 := h1.max
  by_cases hne : (digs x).length = (digs y).length
  · have e := Ho.mk (cmp_digs x y hne)
    generalize digs x = l0 at *
    generalize digs y = l1 at *
    have hb : ((l0.length : Int) != (l1.length : Int)) = false := by rw [hne]; simp
    have HN := Ho.mk hne
    clear hne
    go_enter Tryd.func59, Tryd.ntmps59
    go_wp2
    go_loopw [5] (fun v wr => ∃ j : Int, -1 ≤ j ∧ j < l0.length ∧ v = .int .i64 j ∧ Ho (cmpTop l0 l1 (j + 1).toNat = cmpI x y) ∧ Ho (∃ k, wr = w.drewN k)) (fun v _ => (intOf v + 1).toNat)
    case atStart => exact ⟨l0.length - 1, by omega, by omega, rfl, ⟨by rw [← e.out]; congr 1; omega⟩, ⟨0, rfl⟩⟩
    case round =>
      obtain ⟨j, hj, hj1, rfl, ht, hw⟩ := hrel
      obtain ⟨kw, hw⟩ := hw.out
      subst hw
      rcases Int.lt_or_le j 0 with hz | hz
      · obtain rfl : j = -1 := by omega
        go_wp2
        go_ret
        exact ⟨by rw [← ht.out]; rfl, kw, rfl⟩
      · obtain ⟨m, rfl⟩ := Int.eq_ofNat_of_zero_le hz
        obtain ⟨a0, rfl, x0⟩ := h0.cell m (by omega)
        obtain ⟨a1, rfl, x1⟩ := h1.cell m (by have := HN.out; omega)
        have hm1 : (m : Int) < l1.length := by have := HN.out; omega
        rcases Int.lt_trichotomy (nth l0 m) (nth l1 m) with hq | hq | hq
        · have ht' : Ho (cmpI x y = -1) := ⟨by rw [← ht.out, show ((m : Int) + 1).toNat = m + 1 from by omega]; simp only [cmpTop]; rw [if_neg (by omega), cmpI_lt hq]⟩
          have hqb : decide (nth l0 m < nth l1 m) = true := decide_eq_true hq
          clear ht
          go_wp2
          go_quiet (fail)
          go_wp2
          go_ret
          exact ⟨by rw [ht'.out]; rfl, _, (World.drewN_drewN _ _ _)⟩
        · have ht' : Ho (cmpTop l0 l1 m = cmpI x y) := ⟨by rw [← ht.out, show ((m : Int) + 1).toNat = m + 1 from by omega]; simp only [cmpTop]; rw [if_pos hq]⟩
          have hqb : decide (nth l0 m < nth l1 m) = false := decide_eq_false (by omega)
          have hqb2 : decide (nth l1 m < nth l0 m) = false := decide_eq_false (by omega)
          clear hq ht
          go_wp2
          go_quiet (fail)
          go_wp2
          go_quiet (fail)
          go_wp2
          go_roundw
          case rel => exact ⟨(m : Int) - 1, by omega, by omega, rfl, ⟨by rw [← ht'.out]; congr 1; omega⟩, ⟨_, rfl⟩⟩
          case measure => simp [intOf]
        · have ht' : Ho (cmpI x y = 1) := ⟨by rw [← ht.out, show ((m : Int) + 1).toNat = m + 1 from by omega]; simp only [cmpTop]; rw [if_neg (by omega), cmpI_gt hq]⟩
          have hqb : decide (nth l0 m < nth l1 m) = false := decide_eq_false (by omega)
          have hqb2 : decide (nth l1 m < nth l0 m) = true := decide_eq_true hq
          clear ht
          go_wp2
          go_quiet (fail)
          go_wp2
          go_quiet (fail)
          go_wp2
          go_ret
          exact ⟨by rw [ht'.out]; rfl, _, (World.drewN_drewN _ _ _).trans (World.drewN_drewN _ _ _)⟩
  · rcases Nat.lt_or_gt_of_ne hne with hl | hl
    · have e := Ho.mk (show cmpI x y = -1 from cmpI_lt (by have := digs_len_lt hl; omega))
      have hb : (((digs x).length : Int) != ((digs y).length : Int)) = true := by rw [bne_iff_ne]; omega
      clear hne
      go_enter Tryd.func59, Tryd.ntmps59
      go_wp2
      go_ret
      exact ⟨by rw [e.out]; rfl, 0, rfl⟩
    · have e := Ho.mk (show cmpI x y = 1 from cmpI_gt (by have := digs_len_lt hl; omega))
      have hb : (((digs x).length : Int) != ((digs y).length : Int)) = true := by rw [bne_iff_ne]; omega
      clear hne
      go_enter Tryd.func59, Tryd.ntmps59
      go_wp2
      go_ret
      exact ⟨by rw [e.out]; rfl, 0, rfl⟩

theorem blen_half {t : Nat} (h : 0 < t) : blen t = blen (t / 2) + 1 := by
  by_cases h1 : t = 1
  · subst h1; rfl
  · have := N6.blen_div t 1 (by omega); rw [Nat.pow_one] at this; omega

set_option maxRecDepth 100000 in
theorem len_calls (A : Option Addr) (c x : Nat) (w : World) (h : Rd w A (digs x)) :
    Calls Tryd.prog 38 #[.slice A (digs x).length c] w fun e w' => e = .returned (.int .i64 (blen x)) ∧ w = w' := by
  have hm := h.max
  by_cases h0 : x = 0
  · subst h0
    rw [digs_zero]
    go_enter Tryd.func38, Tryd.ntmps38
    go_wp2
    go_ret
    exact ⟨rfl, rfl⟩
  · have e := Ho.mk (N6.blen_digs x h0)
    have F := (digs_can x).1.nth ((digs x).length - 1)
    have hne : digs x ≠ [] := fun e => h0 (digs_nil.1 e)
    clear h0
    generalize digs x = l at *
    obtain ⟨n, hn⟩ : ∃ n, l.length = n + 1 := ⟨l.length - 1, by have := List.length_pos_iff.2 hne; omega⟩
    obtain ⟨ad, rfl, hx⟩ := h.cell n (by omega)
    rw [hn] at F hm ⊢
    have E := e.out
    rw [hn, show n + 1 - 1 = n from rfl] at E
    rw [show n + 1 - 1 = n from rfl] at F
    obtain ⟨F0, F1⟩ := F
    have EE : Ho ((blen x : Int) = 24 * n + blen (nth l n).toNat) := ⟨by rw [E]; omega⟩
    have HBT := Ho.mk (show blen (nth l n).toNat ≤ 24 from blen_le.2 (by omega))
    generalize nth l n = t at *
    have hm2 : n ≤ 35184372088831 := by omega
    clear hne E e hn hm
    go_enter Tryd.func38, Tryd.ntmps38
    go_wp2
    go_loop [3, 4] (fun v3 v4 => ∃ (r : Nat) (s : Int), v3 = .int .i64 r ∧ v4 = .int .i64 s ∧ 0 ≤ s ∧ s < 16777216 ∧ r ≤ 24 * n + 24 ∧ Ho (r + blen s.toNat = 24 * n + blen t.toNat)) (fun _ v4 => (intOf v4).toNat)
    case atStart => exact ⟨24 * n, t, by simp, rfl, by omega, by omega, by omega, ⟨rfl⟩⟩
    case round =>
      obtain ⟨r, s, rfl, rfl, hs0, hs, hr, he⟩ := hrel
      rcases Int.lt_or_le 0 s with hz | hz
      · have he' : Ho ((r + 1) + blen (s / 2).toNat = 24 * n + blen t.toNat) := ⟨by rw [← he.out, blen_half (show 0 < s.toNat by omega), show (s / 2).toNat = s.toNat / 2 from by omega]; omega⟩
        have hr' : r + 1 ≤ 24 * n + 24 := by have := he'.out; have := HBT.out; omega
        clear he
        go_wp2
        go_round
        case rel => exact ⟨r + 1, s / 2, by go_num, rfl, by omega, by omega, hr', he'⟩
        case measure => simp [intOf]; omega
      · have he' := he.out
        rw [show s.toNat = 0 from by omega, blen_zero] at he'
        have HE := Ho.mk he'
        clear he he'
        go_wp2
        go_ret
        exact ⟨ret_int (by have := EE.out; have := HE.out; omega), rfl⟩
end Go.Proofs.YtnmjnjhijcnbcaaDoor.R3
