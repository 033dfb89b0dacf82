/-
  The walks of the document's answer to layer 2: Same, Sign, Flip, Right.
-/
import Derived.Test.YtnmjnjhijcnbcaaDoorR7
import Derived.Test.YtnmjnjhijcnbcaaDoorDr
set_option linter.unusedVariables false
set_option linter.unusedSimpArgs false
namespace Go.Proofs.YtnmjnjhijcnbcaaDoor.D1
open Go.RowKit Go.Proofs.YtnmjnjhijcnbcaaDoor Go.Proofs.YtnmjnjhijcnbcaaDoor.Ow Go.Proofs.YtnmjnjhijcnbcaaDoor.Pl Go.Proofs.YtnmjnjhijcnbcaaDoor.N2 Go.Proofs.YtnmjnjhijcnbcaaDoor.Dp

def same3 (n0 n1 : Bool) (e0 e1 : Int) (a b : List Int) : Bool := decide (n0 = n1) && (decide (e0 = e1) && R2.sameB a b)
set_option maxHeartbeats 1000000 in
theorem same_calls (n0 n1 : Bool) (e0 e1 : Int) (A0 A1 : Option Addr) (c0 c1 : Nat) (a b : List Int) (w : World) (h0 : Rd w A0 a) (h1 : Rd w A1 b) :
    Calls Tryd.prog 19 #[.agg #[.bool n0, .slice A0 a.length c0, .int .i64 e0], .agg #[.bool n1, .slice A1 b.length c1, .int .i64 e1]] w
      fun e w' => e = .returned (.bool (same3 n0 n1 e0 e1 a b)) ∧ Bel w w' := by
  have HC := Ho.mk (fun (W : World) (g : Bel w W) => R2.same_calls A0 A1 c0 c1 a b W (h0.bel g) (h1.bel g))
  clear h0 h1
  by_cases hn : n0 = n1
  · subst hn
    by_cases he : e0 = e1
    · subst he
      have e : Ho (same3 n0 n0 e0 e0 a b = R2.sameB a b) := ⟨by simp [same3]⟩
      generalize R2.sameB a b = s at *
      go_enter Tryd.func19, Tryd.ntmps19
      go_wp2_with fail
      (with_reducible refine (HC.out _ (((Bel.refl w).alloc _).alloc _)).mono ?_); rintro e1 w1 ⟨rfl, hd⟩
      have HB : Ho (Bel w w1) := ⟨by obtain ⟨n, rfl⟩ := hd; exact (((Bel.refl w).alloc _).alloc _).drewN n⟩
      clear hd
      go_wp2_with fail
      go_ret
      exact ⟨by rw [e.out]; rfl, HB.out⟩
    · have e : Ho (same3 n0 n0 e0 e1 a b = false) := ⟨by simp [same3, he]⟩
      have hb : (e0 == e1) = false := beq_eq_false_iff_ne.mpr he
      clear he
      go_enter Tryd.func19, Tryd.ntmps19
      go_wp2_with fail
      go_ret
      exact ⟨by rw [e.out]; rfl, ((Bel.refl w).alloc _).alloc _⟩
  · have e : Ho (same3 n0 n1 e0 e1 a b = false) := ⟨by simp [same3, hn]⟩
    have hb : (n0 == n1) = false := beq_eq_false_iff_ne.mpr hn
    clear hn
    go_enter Tryd.func19, Tryd.ntmps19
    go_wp2_with fail
    go_ret
    exact ⟨by rw [e.out]; rfl, ((Bel.refl w).alloc _).alloc _⟩
/-- A value that is a number; how far it reaches. -/
structure Dn (w : World) (val : Value) (v : Int) (L U : Nat) : Prop where
  out : ∃ A c, val = .agg #[.bool (dneg v), .slice A (digs (dm v)).length c, .int .i64 (de v)] ∧ (digs (dm v)).length ≤ c ∧ Rd w A (digs (dm v))
  wd : Wd v L U
theorem Dn.bel {w w' : World} {val : Value} {v : Int} {L U : Nat} (h : Dn w val v L U) (b : Bel w w') : Dn w' val v L U :=
  ⟨by obtain ⟨A, c, e, hc, hr⟩ := h.out; exact ⟨A, c, e, hc, hr.bel b⟩, h.wd⟩

theorem sign_calls (A : Option Addr) (c : Nat) (v : Int) (w : World) :
    Calls Tryd.prog 27 #[.agg #[.bool (dneg v), .slice A (digs (dm v)).length c, .int .i64 (de v)]] w fun e w' => e = .returned (.int .i64 (sgn v)) ∧ Bel w w' := by
  rcases Int.lt_trichotomy v 0 with h | h | h
  · have es : Ho (sgn v = -1) := ⟨cmpI_lt h⟩
    have hn : dneg v = true := decide_eq_true h
    have hb : (((digs (dm v)).length : Int) == 0) = false := beq_eq_false_iff_ne.mpr (fun c => by
      have := digs_nil.1 (List.length_eq_zero_iff.1 (Int.ofNat.inj c)); have := dm_zero.1 this; omega)
    generalize digs (dm v) = l at *
    generalize dneg v = n at *
    generalize de v = ev at *
    clear h
    subst hn
    go_enter Tryd.func27, Tryd.ntmps27
    go_wp2
    go_ret
    exact ⟨by rw [es.out]; rfl, (Bel.refl w).alloc _⟩
  · subst h
    have e : Ho (sgn 0 = 0) := ⟨rfl⟩
    rw [show dm 0 = 0 from odd_zero, digs_zero, e.out]
    go_enter Tryd.func27, Tryd.ntmps27
    go_wp2
    go_ret
    exact ⟨rfl, (Bel.refl w).alloc _⟩
  · have es : Ho (sgn v = 1) := ⟨cmpI_gt h⟩
    have hn : dneg v = false := decide_eq_false (by omega)
    have hb : (((digs (dm v)).length : Int) == 0) = false := beq_eq_false_iff_ne.mpr (fun c => by
      have := digs_nil.1 (List.length_eq_zero_iff.1 (Int.ofNat.inj c)); have := dm_zero.1 this; omega)
    generalize digs (dm v) = l at *
    generalize dneg v = n at *
    generalize de v = ev at *
    clear h
    subst hn
    go_enter Tryd.func27, Tryd.ntmps27
    go_wp2
    go_ret
    exact ⟨by rw [es.out]; rfl, (Bel.refl w).alloc _⟩

theorem flip_parts {v : Int} (h : v ≠ 0) : dneg (-v) = !dneg v ∧ dm (-v) = dm v ∧ de (-v) = de v := by
  refine ⟨?_, by unfold dm; rw [Int.natAbs_neg], by unfold de; rw [Int.natAbs_neg, if_neg h, if_neg (by omega)]⟩
  unfold dneg
  by_cases hn : v < 0
  · rw [decide_eq_true hn, decide_eq_false (by omega)]; rfl
  · rw [decide_eq_false hn, decide_eq_true (by omega)]; rfl
set_option maxHeartbeats 1000000 in
theorem flip_calls (A : Option Addr) (c : Nat) (v : Int) (w : World) :
    Calls Tryd.prog 29 #[.agg #[.bool (dneg v), .slice A (digs (dm v)).length c, .int .i64 (de v)]] w
      fun e w' => e = .returned (.agg #[.bool (dneg (-v)), .slice A (digs (dm (-v))).length c, .int .i64 (de (-v))]) ∧ Bel w w' := by
  by_cases h : v = 0
  · subst h
    rw [show -(0 : Int) = 0 from rfl, show dm 0 = 0 from odd_zero, digs_zero, dneg_zero, de_zero]
    go_enter Tryd.func29, Tryd.ntmps29
    go_wp2
    exact bodyPost_ret (v := .agg #[.bool false, .slice A 0 c, .int .i64 0]) (by simp [results, Tryd.f29, go_sem]) rfl ⟨rfl, ((Bel.refl w).alloc _).alloc _⟩
  · obtain ⟨e1, e2, e3⟩ := flip_parts h
    rw [e1, e2, e3]
    have hb : decide (0 < (digs (dm v)).length) = true := decide_eq_true (List.length_pos_iff.2 (fun c => h (dm_zero.1 (digs_nil.1 c))))
    have hb2 : 0 < (digs (dm v)).length := of_decide_eq_true hb
    clear e1 e2 e3 h
    generalize digs (dm v) = l at *
    generalize de v = ev at *
    generalize dneg v = n at *
    cases n
    · go_enter Tryd.func29, Tryd.ntmps29
      go_wp2
      exact bodyPost_ret (v := .agg #[.bool true, .slice A l.length c, .int .i64 ev]) (by simp [results, Tryd.f29, go_sem]) rfl ⟨rfl, ((Bel.refl w).alloc _).alloc _⟩
    · go_enter Tryd.func29, Tryd.ntmps29
      go_wp2
      exact bodyPost_ret (v := .agg #[.bool false, .slice A l.length c, .int .i64 ev]) (by simp [results, Tryd.f29, go_sem]) rfl ⟨rfl, ((Bel.refl w).alloc _).alloc _⟩
end Go.Proofs.YtnmjnjhijcnbcaaDoor.D1
