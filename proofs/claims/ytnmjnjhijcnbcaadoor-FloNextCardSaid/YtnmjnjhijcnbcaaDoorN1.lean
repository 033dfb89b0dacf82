/-
  The walks of package nat: trim.
-/
import Derived.Test.YtnmjnjhijcnbcaaDoorProg
import Derived.Test.YtnmjnjhijcnbcaaDoorPl
import Derived.LoopTactic
import Derived.Deep.LoopGhost
import Derived.Outline
import Derived.Laws.Slices
namespace Go.Proofs.YtnmjnjhijcnbcaaDoor.N1
open Go.RowKit Go.Proofs.YtnmjnjhijcnbcaaDoor Go.Proofs.YtnmjnjhijcnbcaaDoor.Ow Go.Proofs.YtnmjnjhijcnbcaaDoor.Pl
set_option maxHeartbeats 400000 in
theorem trim_calls (A : Option Addr) (c : Nat) (l : List Int) (w : World) (h : Rd w A l) (hc : l.length ≤ c) :
    Calls Tryd.prog 91 #[.slice A l.length c] w fun e w' => e = .returned (.slice A (trimL l).length c) ∧ w = w' := by
  have hm := h.max
  have H := Ho.mk h
  have HL : Hid (trimN l l.length ≤ l.length) := trimN_le l _
  clear h
  go_enter Tryd.func91, Tryd.ntmps91
  go_wp2
  go_loop [0] (fun v => ∃ n : Nat, n ≤ l.length ∧ v = .slice A n c ∧ Ho (trimN l n = trimN l l.length)) (fun v => match v with | .slice _ n _ => n | _ => 0)
  case atStart => exact ⟨l.length, Nat.le_refl _, rfl, ⟨rfl⟩⟩
  case round =>
    obtain ⟨n, hn, rfl, ht⟩ := hrel
    rcases Nat.eq_zero_or_pos n with h0 | h0
    · subst h0
      go_wp2
      go_ret
      have e : trimN l l.length = 0 := ht.out.symm
      exact ⟨by simp [trimL, e], rfl⟩
    · obtain ⟨m, rfl⟩ : ∃ m, n = m + 1 := ⟨n - 1, by omega⟩
      obtain ⟨ad, rfl, hcell⟩ := H.out.cell m (by omega)
      by_cases hz : nth l m = 0
      · rw [hz] at hcell
        have ht' : Ho (trimN l m = trimN l l.length) := ⟨by rw [← ht.out]; simp only [trimN]; rw [if_pos hz]⟩
        clear hz ht
        go_wp2
        go_round
        case rel => exact ⟨m, by omega, by simp, ht'⟩
        case measure => simp
      · have ht' : Ho (trimN l l.length = m + 1) := ⟨by rw [← ht.out]; simp only [trimN]; rw [if_neg hz]⟩
        have hb : (nth l m == 0) = false := beq_eq_false_iff_ne.mpr hz
        clear ht hz
        go_wp2
        go_ret
        exact ⟨by simp [trimL, ht'.out]; omega, rfl⟩
end Go.Proofs.YtnmjnjhijcnbcaaDoor.N1
