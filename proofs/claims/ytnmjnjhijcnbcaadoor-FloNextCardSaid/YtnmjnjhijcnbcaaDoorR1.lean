/-
  The walks of the document's answer to layer 1: at, trim, Same, Of, Right.
-/
import Derived.Test.YtnmjnjhijcnbcaaDoorN2
import Derived.Deep.QuietTactic
import Derived.BigQuiet
set_option linter.unusedVariables false
namespace Go.Proofs.YtnmjnjhijcnbcaaDoor.R1
open Go.RowKit Go.Proofs.YtnmjnjhijcnbcaaDoor Go.Proofs.YtnmjnjhijcnbcaaDoor.Ow Go.Proofs.YtnmjnjhijcnbcaaDoor.Pl Go.Proofs.YtnmjnjhijcnbcaaDoor.N2

theorem at_calls (A : Option Addr) (c : Nat) (l : List Int) (i : Nat) (w : World) (h : Rd w A l) :
    Calls Tryd.prog 90 #[.slice A l.length c, .int .i64 (i : Int)] w fun e w' => e = .returned (.int .i64 (nth l i)) ∧ w = w' := by
  have hm := h.max
  by_cases hl : i < l.length
  · obtain ⟨ad, rfl, x⟩ := h.cell i hl
    clear h
    go_enter Tryd.func90, Tryd.ntmps90
    go_wp2
    go_ret
    exact ⟨rfl, rfl⟩
  · have e : Ho (nth l i = 0) := ⟨nth_ge (by omega)⟩
    clear h
    go_enter Tryd.func90, Tryd.ntmps90
    go_wp2
    go_ret
    exact ⟨by rw [e.out]; rfl, rfl⟩

set_option maxHeartbeats 400000 in
theorem trim_calls (A : Option Addr) (c : Nat) (l : List Int) (w : World) (h : Rd w A l) (hc : l.length ≤ c) (hl : l.length ≤ 200000) :
    Calls Tryd.prog 89 #[.slice A l.length c] w fun e w' => ∃ A c, e = .returned (.slice A (trimL l).length c) ∧ (trimL l).length ≤ c ∧ Rd w' A (trimL l) ∧ Bel w w' := by
  have hm := h.max
  have H := Ho.mk h
  have HL : Hid (trimN l l.length ≤ l.length) := trimN_le l _
  clear h
  go_enter Tryd.func89, Tryd.ntmps89
  go_wp2
  go_loop [3] (fun v => ∃ n : Nat, n ≤ l.length ∧ v = .int .i64 n ∧ Ho (trimN l n = trimN l l.length)) (fun v => (intOf v).toNat)
  case atStart => exact ⟨l.length, Nat.le_refl _, rfl, ⟨rfl⟩⟩
  case round =>
    obtain ⟨n, hn, rfl, ht⟩ := hrel
    rcases Nat.eq_zero_or_pos n with h0 | h0
    · subst h0
      have e : Ho (trimL l = []) := ⟨by have := ht.out; simp only [trimN] at this; simp [trimL, ← this]⟩
      cases A with
      | none =>
        go_wp2_with (at_builtin; (with_reducible refine wpList_app0 _ rfl (.tmp 18) (.tmp 21) 22 rfl 3 (.int .i64 0) 1 8 Tryd.underlying22 info3 (some ⟨w.heap.size, 0, none⟩) 0 0 c rfl rfl (Nat.le_refl _) ?_))
        go_ret
        rw [e.out]
        exact ⟨_, _, rfl, Nat.zero_le _, Rd.nil _ _, (Bel.refl w).alloc _⟩
      | some ad =>
        go_wp2_with (at_builtin; (with_reducible refine wpList_apps _ rfl (.tmp 18) (.tmp 21) 22 rfl w.heap.size 3 (.int .i64 0) 8 Tryd.underlying22 info3 rfl _ 0 [] rfl (Own.lit _ _ (Nat.le_refl _)) ad 0 c [] rfl rfl (by intro j u hu; simp at hu) (by simp) (by omega) (by omega) (by simp) ?_); intro v w1 hv hb)
        obtain ⟨A2, c2, rfl, hc2⟩ := hv.slice
        go_ret
        rw [e.out]
        exact ⟨_, _, rfl, Nat.zero_le _, Rd.nil _ _, ⟨((Below.refl _ w).alloc (Nat.le_refl _) _).trans hb⟩⟩
    · obtain ⟨m, rfl⟩ : ∃ m, n = m + 1 := ⟨n - 1, by omega⟩
      obtain ⟨ad, rfl, hcell⟩ := H.out.cell m (by omega)
      by_cases hz : nth l m = 0
      · rw [hz] at hcell
        have ht' : Ho (trimN l m = trimN l l.length) := ⟨by rw [← ht.out]; simp only [trimN]; rw [if_pos hz]⟩
        clear hz ht
        go_wp2
        go_round
        case rel => exact ⟨m, by omega, by simp, ht'⟩
        case measure => simp [intOf]
      · have ht' : Ho (trimN l l.length = m + 1) := ⟨by rw [← ht.out]; simp only [trimN]; rw [if_neg hz]⟩
        have e : Ho (trimL l = l.take (m + 1)) := ⟨by simp [trimL, ht'.out]⟩
        have hb : (nth l m == 0) = false := beq_eq_false_iff_ne.mpr hz
        have R := H.out.take (m + 1)
        have hlen : Ho ((l.take (m + 1)).length = m + 1) := ⟨by simp; omega⟩
        clear ht hz
        go_wp2_with (at_builtin; (with_reducible refine wpList_apps _ rfl (.tmp 18) (.tmp 21) 22 rfl w.heap.size 3 (.int .i64 0) 8 Tryd.underlying22 info3 rfl _ 0 [] rfl (Own.lit _ _ (Nat.le_refl _)) ad (m + 1) c (ints (l.take (m + 1))) rfl (by rw [ints_len]; exact hlen.out) ((R.bel ((Bel.refl w).alloc _)).news) (ints_one _) (by omega) (by omega) (by simp) ?_); intro v w1 hv hb)
        have hv' : Own w1 w.heap.size 3 1 v (l.take (m + 1)).length (ints (l.take (m + 1))) := ⟨by rw [hlen.out]; have := hv.out; rwa [Nat.zero_add] at this⟩
        obtain ⟨A2, c2, rfl, hc2, hr2⟩ := hv'.rd (by rw [hlen.out]; omega)
        have H2 := Ho.mk hr2
        clear hv hv' hr2
        go_ret
        rw [e.out]
        exact ⟨_, _, rfl, hc2, H2.out, ⟨((Below.refl _ w).alloc (Nat.le_refl _) _).trans hb⟩⟩
end Go.Proofs.YtnmjnjhijcnbcaaDoor.R1
