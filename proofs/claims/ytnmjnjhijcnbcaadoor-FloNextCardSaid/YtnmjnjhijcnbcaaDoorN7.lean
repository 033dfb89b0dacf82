/-
  The walks of package nat: whether a row is a natural; a number's natural, and back.
-/
import Derived.Test.YtnmjnjhijcnbcaaDoorN6
set_option linter.unusedVariables false
namespace Go.Proofs.YtnmjnjhijcnbcaaDoor.N7
open Go.RowKit Go.Proofs.YtnmjnjhijcnbcaaDoor Go.Proofs.YtnmjnjhijcnbcaaDoor.Ow Go.Proofs.YtnmjnjhijcnbcaaDoor.Pl Go.Proofs.YtnmjnjhijcnbcaaDoor.N1 Go.Proofs.YtnmjnjhijcnbcaaDoor.N2 Go.Proofs.YtnmjnjhijcnbcaaDoor.N3 Go.Proofs.YtnmjnjhijcnbcaaDoor.N4 Go.Proofs.YtnmjnjhijcnbcaaDoor.N5 Go.Proofs.YtnmjnjhijcnbcaaDoor.N6
/-- No limb? -/
def oddB (x : Int) : Bool := decide (x < 0) || decide (x > 16777215)
theorem odd_calls (x : Int) (w : World) : Calls Tryd.prog 81 #[.int .i64 x] w fun e w' => e = .returned (.bool (oddB x)) ∧ w = w' := by
  rcases Int.lt_or_le x 0 with h | h
  · have e : Ho (oddB x = true) := ⟨by simp [oddB, h]⟩
    go_enter Tryd.func81, Tryd.ntmps81
    go_wp2
    go_ret
    exact ⟨by rw [e.out]; rfl, rfl⟩
  · rcases Int.lt_or_le 16777215 x with h' | h'
    · have e : Ho (oddB x = true) := ⟨by simp [oddB]; omega⟩
      have h0 : decide (x < 0) = false := decide_eq_false (by omega)
      have h1 : decide (16777215 < x) = true := decide_eq_true h'
      go_enter Tryd.func81, Tryd.ntmps81
      go_wp2
      go_ret
      exact ⟨by rw [e.out]; rfl, rfl⟩
    · have e : Ho (oddB x = false) := ⟨by simp [oddB]; omega⟩
      have h0 : decide (x < 0) = false := decide_eq_false (by omega)
      have h1 : decide (16777215 < x) = false := decide_eq_false (by omega)
      go_enter Tryd.func81, Tryd.ntmps81
      go_wp2
      go_ret
      exact ⟨by rw [e.out]; rfl, rfl⟩
/-- What is found among limbs. -/
def Found (l : List Int) (w : World) (e : Ending) (w' : World) : Prop := ∃ r : Int, e = .returned (.int .i64 r) ∧ decide (0 ≤ r) = l.any oddB ∧ w = w'
theorem index_calls (A : Option Addr) (c : Nat) (l : List Int) (w : World) (h : Rd w A l) :
    Calls Tryd.prog 68 #[.slice A l.length c, .func (.func 81) #[] #[]] w (Found l w) := by
  have hm := h.max
  go_enter Tryd.func68, Tryd.ntmps68
  go_wp2
  go_loop [8] (fun v => ∃ i : Nat, i ≤ l.length ∧ v = .int .i64 i ∧ Ho (∀ j, j < i → oddB (nth l j) = false)) (fun v => l.length - (intOf v).toNat)
  case atStart => exact ⟨0, by omega, rfl, ⟨fun j hj => by omega⟩⟩
  case round =>
    obtain ⟨i, hi, rfl, hno⟩ := hrel
    rcases Nat.lt_or_ge i l.length with hlt | hge
    · obtain ⟨ad, rfl, x0⟩ := h.cell i hlt
      cases ho : oddB (nth l i) with
      | true =>
        have any : Ho (l.any oddB = true) := ⟨by rw [List.any_eq_true]; exact ⟨l[i], List.getElem_mem _, by rw [nth_lt hlt] at ho; exact ho⟩⟩
        go_wp2_with (go_at_call 81; (with_reducible refine (odd_calls _ _).mono ?_); rintro e w' ⟨rfl, rfl⟩)
        go_ret
        exact ⟨i, rfl, by rw [any.out]; exact decide_eq_true (by omega), rfl⟩
      | false =>
        have hno' : Ho (∀ j, j < i + 1 → oddB (nth l j) = false) := ⟨fun j hj => by
          rcases Nat.lt_or_eq_of_le (Nat.lt_succ_iff.1 hj) with h1 | h1
          · exact hno.out j h1
          · rw [h1]; exact ho⟩
        clear hno
        go_wp2_with (go_at_call 81; (with_reducible refine (odd_calls _ _).mono ?_); rintro e w' ⟨rfl, rfl⟩)
        go_round
        case rel => exact ⟨i + 1, by omega, by go_num, hno'⟩
        case measure => simp [intOf]; omega
    · obtain rfl : i = l.length := by omega
      have any : Ho (l.any oddB = false) := ⟨by
        rw [List.any_eq_false]; intro x hx
        obtain ⟨j, hj, rfl⟩ := List.getElem_of_mem hx
        have := hno.out j hj
        rw [nth_lt hj] at this; simp [this]⟩
      go_wp2
      go_ret
      exact ⟨-1, rfl, by rw [any.out]; rfl, rfl⟩
theorem contains_calls (A : Option Addr) (c : Nat) (l : List Int) (w : World) (h : Rd w A l) :
    Calls Tryd.prog 82 #[.slice A l.length c, .func (.func 81) #[] #[]] w fun e w' => e = .returned (.bool (l.any oddB)) ∧ w = w' := by
  go_enter Tryd.func82, Tryd.ntmps82
  go_wp2_with fail
  (with_reducible refine (index_calls _ _ _ _ h).mono ?_); rintro e w' ⟨r, rfl, hr, rfl⟩
  have HR := Ho.mk hr
  clear hr
  go_wp2
  go_ret
  exact ⟨by rw [← HR.out]; rfl, rfl⟩
/-- Is a row a natural, of at most so many limbs? -/
def natB (l : List Int) : Bool := decide (l.length ≤ 300) && !l.any oddB && (l.length == 0 || nth l (l.length - 1) != 0)
theorem natB_iff (l : List Int) : natB l = true ↔ IsN l ∧ l.length ≤ 300 := by
  have ho : (∀ x ∈ l, ¬ (oddB x = true)) ↔ Lims l := by
    constructor
    · intro h x hx; have := h x hx; simp [oddB] at this; omega
    · intro h x hx; have := h x hx; simp [oddB]; omega
  have hl : (l.length == 0 || nth l (l.length - 1) != 0) = true ↔ l.getLast? ≠ some 0 := by
    rcases List.eq_nil_or_concat l with rfl | ⟨r, x, rfl⟩
    · simp
    · simp [nth]
  unfold natB IsN
  rw [Bool.and_eq_true, Bool.and_eq_true, hl, ← ho, Bool.not_eq_true', List.any_eq_false, decide_eq_true_eq]
  exact ⟨fun h => ⟨⟨h.1.2, h.2⟩, h.1.1⟩, fun h => ⟨⟨h.2, h.1.1⟩, h.1.2⟩⟩
theorem right_calls (A : Option Addr) (c : Nat) (l : List Int) (w : World) (h : Rd w A l) :
    Calls Tryd.prog 50 #[.slice A l.length c] w fun e w' => e = .returned (.bool (natB l)) ∧ w = w' := by
  have hm := h.max
  rcases Nat.lt_or_ge 300 l.length with h3 | h3
  · have e : Ho (natB l = false) := ⟨by simp [natB]; omega⟩
    have hd : decide ((l.length : Int) ≤ 300) = false := decide_eq_false (by omega)
    go_enter Tryd.func50, Tryd.ntmps50
    go_wp2
    go_ret
    exact ⟨by rw [e.out]; rfl, rfl⟩
  have hd : decide ((l.length : Int) ≤ 300) = true := decide_eq_true (by omega)
  cases ha : l.any oddB with
  | true =>
    have e : Ho (natB l = false) := ⟨by unfold natB; rw [ha]; simp⟩
    have HA := Ho.mk ha
    clear ha
    go_enter Tryd.func50, Tryd.ntmps50
    go_wp2_with (go_at_call 82; (with_reducible refine (contains_calls _ _ _ _ h).mono ?_); rintro e w' ⟨rfl, rfl⟩; rw [HA.out])
    go_ret
    exact ⟨by rw [e.out]; rfl, rfl⟩
  | false =>
    have e : Ho (natB l = (l.length == 0 || nth l (l.length - 1) != 0)) := ⟨by unfold natB; rw [ha, decide_eq_true h3]; rfl⟩
    have HA := Ho.mk ha
    clear ha
    rcases Nat.eq_zero_or_pos l.length with h0 | h0
    · have hb : ((l.length : Int) == 0) = true := by rw [h0]; rfl
      have H0 := Ho.mk h0
      clear h0
      go_enter Tryd.func50, Tryd.ntmps50
      go_wp2_with (go_at_call 82; (with_reducible refine (contains_calls _ _ _ _ h).mono ?_); rintro e w' ⟨rfl, rfl⟩; rw [HA.out])
      go_ret
      exact ⟨by rw [e.out, H0.out]; rfl, rfl⟩
    · obtain ⟨n, hn⟩ : ∃ n, l.length = n + 1 := ⟨l.length - 1, by omega⟩
      obtain ⟨ad, rfl, x0⟩ := h.cell n (by omega)
      have E := e.out
      rw [hn, show n + 1 - 1 = n from rfl] at E
      have EE := Ho.mk E
      have hb : ((l.length : Int) == 0) = false := beq_eq_false_iff_ne.mpr (by omega)
      have hn1 : (l.length : Int) - 1 = (n : Int) := by omega
      clear E e
      have HN := Ho.mk hn
      clear hn
      go_enter Tryd.func50, Tryd.ntmps50
      go_wp2_with (go_at_call 82; (with_reducible refine (contains_calls _ _ _ _ h).mono ?_); rintro e w' ⟨rfl, rfl⟩; rw [HA.out])
      go_ret
      exact ⟨by rw [EE.out]; simp, rfl⟩
end Go.Proofs.YtnmjnjhijcnbcaaDoor.N7
