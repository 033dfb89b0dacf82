/-
  The walk of Great.
-/
import Derived.Test.YtpgdiebmdcbgfaaR3
set_option linter.unusedVariables false
namespace Go.Proofs.Ytpgdiebmdcbgfaa.L1
open Go.RowKit Go.Proofs.Ytpgdiebmdcbgfaa Go.Proofs.Ytpgdiebmdcbgfaa.Ow Go.Proofs.Ytpgdiebmdcbgfaa.Pl Go.Proofs.Ytpgdiebmdcbgfaa.N7

structure Row where
  A : Option Addr
  c : Nat
  l : List Int
def Row.v (r : Row) : Value := .slice r.A r.l.length r.c
/-- Too long, or no natural's row. -/
def bad (l : List Int) : Bool := decide (30 < l.length) || !natB l
theorem bad_not {l : List Int} (h : bad l = false) : ∃ x, l = digs x ∧ (digs x).length ≤ 30 := by
  unfold bad at h
  rw [Bool.or_eq_false_iff, decide_eq_false_iff_not] at h
  obtain ⟨h1, h2⟩ := h
  obtain ⟨x, rfl⟩ := can_digs ((natB_iff l).1 (by simpa using h2)).1
  exact ⟨x, rfl, by omega⟩

set_option maxHeartbeats 400000 in
theorem great_calls (b k : Nat) (rs : List Row) (w : World) (hk : rs.length = k) (hk9 : k ≤ 9) (hb : Blk w b 22 (rs.map Row.v)) (hr : ∀ r ∈ rs, Rd w r.A r.l) :
    Calls Try.prog 15 #[.slice (some ⟨b, 0, none⟩) k k] w fun e w' => e = .returned (.bool (rs.any fun r => bad r.l)) ∧ w = w' := by
  have HB := Ho.mk hb
  have HR := Ho.mk hr
  have HK := Ho.mk hk
  clear hb hr hk
  go_enter Try.func15, Try.ntmps15
  go_wp2
  go_loopw [3] (fun v3 wr => ∃ i : Nat, i ≤ k ∧ v3 = .int .i64 i ∧ w = wr ∧ Ho (∀ j r, j < i → rs[j]? = some r → bad r.l = false)) (fun v3 _ => k - (intOf v3).toNat)
  case atStart => exact ⟨0, Nat.zero_le _, rfl, rfl, ⟨fun j r hj => by omega⟩⟩
  case round =>
    obtain ⟨i, hi, rfl, rfl, HN⟩ := hrel
    rcases Nat.lt_or_ge i k with hlt | hge
    · obtain ⟨r, hri⟩ : ∃ r, rs[i]? = some r := ⟨rs[i]'(by have := HK.out; omega), List.getElem?_eq_getElem _⟩
      have x0 := HB.out.cell (i := i) (v := .slice r.A r.l.length r.c) (by rw [List.getElem?_map, hri]; rfl)
      have RR := Ho.mk (HR.out r (List.mem_of_getElem? hri))
      have HRI := Ho.mk hri
      have hmax := RR.out.max
      clear hri
      rcases Nat.lt_or_ge 30 r.l.length with hlong | hshort
      · have e : Ho ((rs.any fun r => bad r.l) = true) := ⟨by
          rw [List.any_eq_true]
          exact ⟨r, List.mem_of_getElem? HRI.out, by simp [bad, hlong]⟩⟩
        go_wp2
        go_ret
        exact ⟨by rw [e.out]; rfl, rfl⟩
      · cases hn : natB r.l with
        | false =>
          have e : Ho ((rs.any fun r => bad r.l) = true) := ⟨by
            rw [List.any_eq_true]
            exact ⟨r, List.mem_of_getElem? HRI.out, by simp [bad, hn]⟩⟩
          go_wp2_with (go_at_call 11; (with_reducible refine (R3.right_calls _ _ _ _ RR.out).mono ?_); rw [hn]; rintro e w' ⟨rfl, rfl⟩)
          go_ret
          exact ⟨by rw [e.out]; rfl, rfl⟩
        | true =>
          have HN' : Ho (∀ j r, j < i + 1 → rs[j]? = some r → bad r.l = false) := ⟨fun j r' hj hr' => by
            rcases Nat.lt_or_ge j i with h1 | h1
            · exact HN.out j r' h1 hr'
            · obtain rfl : j = i := by omega
              rw [HRI.out] at hr'; cases hr'
              unfold bad; rw [hn, decide_eq_false (by omega)]; rfl⟩
          go_wp2_with (go_at_call 11; (with_reducible refine (R3.right_calls _ _ _ _ RR.out).mono ?_); rw [hn]; rintro e w' ⟨rfl, rfl⟩)
          go_roundw
          case rel => exact ⟨i + 1, by omega, by simp, trivial, HN'⟩
          case measure => simp [intOf]; omega
    · have e : Ho ((rs.any fun r => bad r.l) = false) := ⟨by
        rw [List.any_eq_false]
        intro r hr
        obtain ⟨j, hj, e⟩ := List.mem_iff_getElem.1 hr
        rw [HN.out j r (by have := HK.out; omega) (by rw [List.getElem?_eq_getElem hj, e])]; simp⟩
      go_wp2
      go_ret
      exact ⟨by rw [e.out]; rfl, rfl⟩
end Go.Proofs.Ytpgdiebmdcbgfaa.L1
