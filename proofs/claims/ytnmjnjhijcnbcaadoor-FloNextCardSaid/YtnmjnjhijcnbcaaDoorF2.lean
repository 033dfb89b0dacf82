/-
  The walk of Good of layer 2.
-/
import Derived.Test.YtnmjnjhijcnbcaaDoorF1
set_option linter.unusedVariables false
set_option linter.unusedSimpArgs false
namespace Go.Proofs.YtnmjnjhijcnbcaaDoor.F2
open Go Go.RowKit Go.Proofs.YtnmjnjhijcnbcaaDoor Go.Proofs.YtnmjnjhijcnbcaaDoor.Ow Go.Proofs.YtnmjnjhijcnbcaaDoor.Pl Go.Proofs.YtnmjnjhijcnbcaaDoor.Dp Go.Proofs.YtnmjnjhijcnbcaaDoor.E7 Go.Proofs.YtnmjnjhijcnbcaaDoor.F1

structure DRow where
  n : Bool
  A : Option Addr
  c : Nat
  l : List Int
  e : Int
def DRow.vals (r : DRow) : List Value := [.bool r.n, .slice r.A r.l.length r.c, .int .i64 r.e]
def goodB (r : DRow) : Bool := decide (r.l.length ≤ 8) && (rightB r.n r.l r.e && (decide (r.e ≤ 200) && decide (-200 ≤ r.e)))
def flat (rs : List DRow) : List Value := rs.flatMap DRow.vals
theorem flat_at (rs : List DRow) : ∀ (i : Nat) (r : DRow), rs[i]? = some r → (flat rs)[i * 3]? = some (.bool r.n) ∧ (flat rs)[i * 3 + 1]? = some (.slice r.A r.l.length r.c) ∧ (flat rs)[i * 3 + 2]? = some (.int .i64 r.e) := by
  induction rs with
  | nil => intro i r h; simp at h
  | cons a rs ih =>
    intro i r h
    cases i with
    | zero => simp at h; subst h; exact ⟨rfl, rfl, rfl⟩
    | succ i =>
      have := ih i r (by simpa using h)
      have e : flat (a :: rs) = .bool a.n :: .slice a.A a.l.length a.c :: .int .i64 a.e :: flat rs := rfl
      rw [e, show (i + 1) * 3 = i * 3 + 1 + 1 + 1 from by omega]
      simpa using this
theorem good_num {r : DRow} (h : goodB r = true) : ∃ v : Int, r.n = dneg v ∧ r.l = digs (dm v) ∧ r.e = de v ∧ (digs (dm v)).length ≤ 8 ∧ Wd v 200 392 := by
  unfold goodB at h
  simp only [Bool.and_eq_true, decide_eq_true_eq] at h
  obtain ⟨h1, h2, h3, h4⟩ := h
  obtain ⟨_, v, e1, e2, e3, _, _⟩ := right_num h2
  refine ⟨v, e1, e2, e3, by rw [← e2]; exact h1, .inr (by omega), ?_⟩
  have hx : dm v < 2 ^ 192 := by
    have := digs_len_le.1 (show (digs (dm v)).length ≤ 8 by rw [← e2]; exact h1)
    rwa [show (16777216 : Nat) ^ 8 = 2 ^ 192 from rfl] at this
  have := wd_sc (dneg v) (b := 192) (e := de v) (L := 200) (U := 392) hx (by omega) (by omega) (by unfold K; omega)
  rw [sc_self] at this
  exact this.up

set_option maxRecDepth 100000 in
set_option maxHeartbeats 1000000 in
theorem good_calls (b k : Nat) (rs : List DRow) (w : World) (hk : rs.length = k) (hk9 : k ≤ 9) (hb : Blk w b 24 (flat rs)) (hr : ∀ r ∈ rs, Rd w r.A r.l) :
    Calls Tryd.prog 18 #[.slice (some ⟨b, 0, none⟩) k k] w (Tells w (.bool (rs.all goodB))) := by
  have HB := Ho.mk hb
  have HR := Ho.mk hr
  have HK := Ho.mk hk
  clear hb hr hk
  go_enter Tryd.func18, Tryd.ntmps18
  go_wp2
  go_loopw [3] (fun v3 wr => ∃ i : Nat, i ≤ k ∧ v3 = .int .i64 i ∧ Ho (Bel w wr) ∧ Ho (∀ j r, j < i → rs[j]? = some r → goodB r = true)) (fun v3 _ => k - (intOf v3).toNat)
  case atStart => exact ⟨0, Nat.zero_le _, rfl, ⟨Bel.refl _⟩, ⟨fun j r hj => by omega⟩⟩
  case round =>
    obtain ⟨i, hi, rfl, HW, HN⟩ := hrel
    rcases Nat.lt_or_ge i k with hlt | hge
    · obtain ⟨r, hri⟩ : ∃ r, rs[i]? = some r := ⟨rs[i]'(by have := HK.out; omega), List.getElem?_eq_getElem _⟩
      obtain ⟨f0, f1, f2⟩ := flat_at rs i r hri
      have KB := Ho.mk (HB.out.bel HW.out)
      have x0 := KB.out.cell f0
      have x1 := KB.out.cell f1
      have x2 := KB.out.cell f2
      clear f0 f1 f2
      have RR := Ho.mk ((HR.out r (List.mem_of_getElem? hri)).bel HW.out)
      have CA := Ho.mk (E7.refRight_calls r.A r.c r.n r.l r.e wr RR.out)
      have F : Ho (goodB r = false → (rs.all goodB) = false) := ⟨fun q => by
        rw [List.all_eq_false]
        exact ⟨r, List.mem_of_getElem? hri, by rw [q]; decide⟩⟩
      have HRI := Ho.mk hri
      clear hri
      rcases Nat.lt_or_ge 8 r.l.length with hlong | hshort
      · have e : Ho ((rs.all goodB) = false) := ⟨F.out (by unfold goodB; rw [decide_eq_false (by omega)]; rfl)⟩
        clear F
        go_wp2
        go_ret
        exact ⟨by rw [e.out]; rfl, HW.out⟩
      · cases hn : rightB r.n r.l r.e with
        | false =>
          have e : Ho ((rs.all goodB) = false) := ⟨F.out (by unfold goodB; rw [hn, Bool.false_and, Bool.and_false])⟩
          rw [hn] at CA
          clear F hn
          go_wp2_with fail
          (with_reducible refine (CA.out).mono ?_); rintro q w1 ⟨rfl, hb1⟩
          have HB1 := Ho.mk (HW.out.trans hb1)
          clear hb1 x0 x1 x2
          go_wp2
          go_ret
          exact ⟨by rw [e.out]; rfl, HB1.out⟩
        | true =>
          rw [hn] at CA
          rcases Int.lt_or_le 200 r.e with he | he
          · have e : Ho ((rs.all goodB) = false) := ⟨F.out (by unfold goodB; rw [decide_eq_false (show ¬ r.e ≤ 200 by omega), Bool.false_and, Bool.and_false, Bool.and_false])⟩
            have hd : decide (200 < r.e) = true := decide_eq_true he
            clear F hn
            go_wp2_with fail
            (with_reducible refine (CA.out).mono ?_); rintro q w1 ⟨rfl, hb1⟩
            have HB1 := Ho.mk (HW.out.trans hb1)
            have y2 := hb1.cell x2
            clear hb1 x0 x1 x2
            go_wp2
            go_ret
            exact ⟨by rw [e.out]; rfl, HB1.out⟩
          · have hd : decide (200 < r.e) = false := decide_eq_false (by omega)
            rcases Int.lt_or_le r.e (-200) with he' | he'
            · have e : Ho ((rs.all goodB) = false) := ⟨F.out (by unfold goodB; rw [decide_eq_false (show ¬ -200 ≤ r.e by omega), Bool.and_false, Bool.and_false, Bool.and_false])⟩
              have hd2 : decide (r.e < -200) = true := decide_eq_true he'
              clear F hn
              go_wp2_with fail
              (with_reducible refine (CA.out).mono ?_); rintro q w1 ⟨rfl, hb1⟩
              have HB1 := Ho.mk (HW.out.trans hb1)
              have y2 := hb1.cell x2
              clear hb1 x0 x1 x2
              go_wp2
              go_ret
              exact ⟨by rw [e.out]; rfl, HB1.out⟩
            · have hd2 : decide (r.e < -200) = false := decide_eq_false (by omega)
              have HN' : Ho (∀ j r, j < i + 1 → rs[j]? = some r → goodB r = true) := ⟨fun j r' hj hr' => by
                rcases Nat.lt_or_ge j i with h1 | h1
                · exact HN.out j r' h1 hr'
                · obtain rfl : j = i := by omega
                  rw [HRI.out] at hr'; cases hr'
                  unfold goodB; rw [hn, decide_eq_true hshort, decide_eq_true he, decide_eq_true he']; rfl⟩
              clear F hn HN
              go_wp2_with fail
              (with_reducible refine (CA.out).mono ?_); rintro q w1 ⟨rfl, hb1⟩
              have HB1 := Ho.mk (HW.out.trans hb1)
              have y2 := hb1.cell x2
              clear hb1 x0 x1 x2
              go_wp2
              go_roundw
              case rel => exact ⟨i + 1, by omega, by simp, HB1, HN'⟩
              case measure => simp [intOf]; omega
    · have e : Ho ((rs.all goodB) = true) := ⟨by
        rw [List.all_eq_true]
        intro r hr
        obtain ⟨j, hj, e⟩ := List.mem_iff_getElem.1 hr
        exact HN.out j r (by have := HK.out; omega) (by rw [List.getElem?_eq_getElem hj, e])⟩
      go_wp2
      go_ret
      exact ⟨by rw [e.out]; rfl, HW.out⟩
end Go.Proofs.YtnmjnjhijcnbcaaDoor.F2
