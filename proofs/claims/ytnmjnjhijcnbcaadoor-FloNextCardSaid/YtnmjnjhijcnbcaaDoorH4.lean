/-
  Layer 3's contracts in the shape of the laws' walks.
-/
import Derived.Test.YtnmjnjhijcnbcaaDoorGC
import Derived.Test.YtnmjnjhijcnbcaaDoorF4
import Derived.Deep.RegionHeld3
set_option linter.unusedVariables false
set_option linter.unusedSimpArgs false
namespace Go.Proofs.YtnmjnjhijcnbcaaDoor.H4
open Ieee Go Go.RowKit Go.Proofs.YtnmjnjhijcnbcaaDoor Go.Proofs.YtnmjnjhijcnbcaaDoor.Ow Go.Proofs.YtnmjnjhijcnbcaaDoor.Pl Go.Proofs.YtnmjnjhijcnbcaaDoor.Dp Go.Proofs.YtnmjnjhijcnbcaaDoor.Dt Go.Proofs.YtnmjnjhijcnbcaaDoor.Gp Go.Proofs.YtnmjnjhijcnbcaaDoor.Gq Go.Proofs.YtnmjnjhijcnbcaaDoor.Gr Go.Proofs.YtnmjnjhijcnbcaaDoor.G1 Go.Proofs.YtnmjnjhijcnbcaaDoor.G3 Go.Proofs.YtnmjnjhijcnbcaaDoor.G5 Go.Proofs.YtnmjnjhijcnbcaaDoor.G7 Go.Proofs.YtnmjnjhijcnbcaaDoor.F1 Go.Proofs.YtnmjnjhijcnbcaaDoor.H0

section
variable {w : World} {A : Option Addr} {c : Nat} {v : Int} {L U : Nat}
theorem nearD (h : Dv w A c v L U) (hL : L ≤ 10000) (hU : U ≤ 10000) {r : Nat} (hr : nw v = r) :
    Calls Tryd.prog 47 #[.agg #[.bool (dneg v), .slice A (digs (dm v)).length c, .int .i64 (de v)]] w (Tells w (.float .f64 r)) := by
  subst hr; exact near_calls h hL hU
theorem nearR (h : Dv w A c v L U) (hL : L ≤ 10000) (hU : U ≤ 10000) {r : Nat} (hr : nw v = r) :
    Calls Tryd.prog 48 #[.agg #[.bool (dneg v), .slice A (digs (dm v)).length c, .int .i64 (de v)]] w (Tells w (.float .f64 r)) := by
  subst hr; exact G9.rnear_calls h hL hU
theorem headT (w : World) (T : Tab w) : Calls Tryd.prog 39 #[] w (Tells w (.bool true)) := H2.head_calls w T
theorem goodT (n : Bool) (A : Option Addr) (c : Nat) (l : List Int) (e : Int) (w : World) (h : Rd w A l) {b : Bool} (hb : H1.goodB n l e = b) :
    Calls Tryd.prog 46 #[.agg #[.bool n, .slice A l.length c, .int .i64 e]] w (Tells w (.bool b)) := by
  subst hb; exact H1.good_calls n A c l e w h
theorem dv_set3 {w : World} {A : Option Addr} {c : Nat} {v : Int} {L U b : Nat} {x0 : Bool} (h : Dv w A c v L U) (K : Blk w b 24 [.bool x0, .slice none 0 0, .int .i64 0]) (v0 v1 v2 : Value) :
    Dv (((w.setCell ⟨b, 0, none⟩ v0).setCell ⟨b, 1, none⟩ v1).setCell ⟨b, 2, none⟩ v2) A c v L U := by
  refine ⟨h.cap, ?_, h.wd⟩
  by_cases h0 : dm v = 0
  · rw [h0, digs_zero]; exact Rd.nil _ _
  · exact D2.rd_set3 h.rd (fun ad2 he => by subst he; exact D2.rd_far K (fun z => by simp) h.rd h0) _ _ _
theorem bel_set3 {w w2 : World} {b : Nat} (g : Bel w w2) (hb : w.heap.size ≤ b) (v0 v1 v2 : Value) : Bel w (((w2.setCell ⟨b, 0, none⟩ v0).setCell ⟨b, 1, none⟩ v1).setCell ⟨b, 2, none⟩ v2) :=
  ⟨((g.out.setCell (p := ⟨b, 0, none⟩) hb v0).setCell (p := ⟨b, 1, none⟩) hb v1).setCell (p := ⟨b, 2, none⟩) hb v2⟩
theorem rd_bool {w : World} {A : Option Addr} {l : List Int} {b : Nat} {t : TypeId} {b0 : Bool} {cs : List Value} (hb : Blk w b t (.bool b0 :: cs)) (h : Rd w A l) (v : Value) : Rd (w.setCell ⟨b, 0, none⟩ v) A l :=
  ⟨h.max, fun j hj => by
    obtain ⟨ad, e, hc⟩ := h.cell j hj
    refine ⟨ad, e, ?_⟩
    by_cases hq : (ad.add j).block = b
    · have K' := hb.set 0 v
      unfold World.cell? at hc ⊢
      rw [hq, hb.out] at hc
      rw [hq, K'.out]
      simp at hc ⊢
      refine ⟨hc.1, ?_⟩
      have h2 := hc.2
      cases ho : (ad.add j).off with
      | zero => rw [ho] at h2; simp at h2
      | succ k => rw [ho] at h2; simpa using h2
    · rw [← hc]
      unfold World.cell?
      rw [Below.heap_setCell w _ v _ hq]⟩
theorem abs_parts (v : Int) : dneg (v.natAbs : Int) = false ∧ dm (v.natAbs : Int) = dm v ∧ de (v.natAbs : Int) = de v := by
  refine ⟨decide_eq_false (by omega), ?_, ?_⟩
  · unfold dm; rw [Int.natAbs_natCast]
  · unfold de
    rw [Int.natAbs_natCast]
    by_cases h : v = 0
    · subst h; rfl
    · rw [if_neg h, if_neg (by omega)]
theorem wd_abs {v : Int} {L U : Nat} (h : Wd v L U) : Wd (v.natAbs : Int) L U := by
  rcases Int.le_total 0 v with q | q
  · rwa [show ((v.natAbs : Nat) : Int) = v by omega]
  · rw [show ((v.natAbs : Nat) : Int) = -v by omega]; exact h.neg
theorem wd_fv {b : Nat} (h : frung b < infR) : Wd (fv b) 1074 1024 := by
  rw [← fv_sc]
  have := plc_le h
  exact wd_sc (fneg b) (sig_lt b) (by omega) (by omega) (by unfold K; omega)
theorem quietT {w : World} {v : Value} : ∀ e w', Quiet w v e w' → Tells w v e w' := fun _ _ ⟨h, k⟩ => ⟨h, k ▸ Bel.refl _⟩
theorem fsameT {a b : Nat} (ha : a < 2 * sgnW) (hb : b < 2 * sgnW) (w : World) {r : Bool} (hr : alike a b = r) : Calls Tryd.prog 42 #[.float .f64 a, .float .f64 b] w (Tells w (.bool r)) := by
  subst hr; exact G4.same_calls ha hb w
theorem rsameT (a b : Nat) (w : World) {r : Bool} (hr : alike a b = r) : Calls Tryd.prog 43 #[.float .f64 a, .float .f64 b] w (Tells w (.bool r)) := by
  subst hr; exact (rsame_calls a b w).mono quietT
theorem nextT {b : Nat} (hb : b < 2 * sgnW) (w : World) {r : Nat} (hr : nxw b = r) : Calls Tryd.prog 44 #[.float .f64 b] w (Tells w (.float .f64 r)) := by
  subst hr; exact (next_calls hb w).mono quietT
theorem rnextT {b : Nat} (hb : b < 2 * sgnW) (w : World) {r : Nat} (hr : nxr b = r) : Calls Tryd.prog 45 #[.float .f64 b] w (Tells w (.float .f64 r)) := by
  subst hr; exact (rnext_calls hb w).mono quietT
theorem fin_of {b : Nat} (h : frung b < infR) : (fv b) = if frung b < infR then fv b else 0 := by rw [if_pos h]
theorem inf_of {b : Nat} (h : ¬ frung b < infR) : (0 : Int) = if frung b < infR then fv b else 0 := by rw [if_neg h]
theorem wf_lt {b : Nat} (h : (Lit.float .f64 b).wf = true) : b < 2 * sgnW := by
  simp only [Lit.wf, decide_eq_true_eq] at h
  exact h
end
/-! ### a drawn region, step by step -/
section
variable {P : Program} {ops : Array Oper} {Q : Exit → Act → World → Prop} {md : Region.Mode} {S : World → Prop}
theorem ops_at {i : Nat} {oi : Oper} {rest : List Oper} (h : ops.toList.drop i = oi :: rest) : ops[i]? = some oi := by
  have : (ops.toList.drop i)[0]? = some oi := by rw [h]; rfl
  rw [List.getElem?_drop] at this
  simpa using this
theorem r_take {i : Nat} {oi : Oper} {rest : List Oper} {v : Value} {fuel : Nat} {listed : Array Bool} {a : Act} {w : World} (hi : ops.toList.drop i = oi :: rest)
    (hs : Region.noSelect ops = true) (hf : Region.free md ops listed i = true) (hr : (Region.ready md ops listed).contains i = true)
    (hQ : ∀ c a w, Q (.panic c) (a.put oi.dst v) w → Q (.panic c) a w) (hw : Region.wanted oi (yielded ops a.tmps) = true) (hS : S w)
    (hv : ∀ w, S w → (execOp a.eval oi).run P w = .ok (.value v) w)
    (h : wpAnyH P md ops Q S fuel (listed.setIfInBounds i true) (a.put oi.dst v) w) : wpAnyH P md ops Q S (fuel + 1) listed a w :=
  wpAnyH_take (ops_at hi) hs hf hr hQ (.inl ⟨hw, hv⟩) hS h
theorem r_not {i : Nat} {oi : Oper} {rest : List Oper} {fuel : Nat} {listed : Array Bool} {a : Act} {w : World} (hi : ops.toList.drop i = oi :: rest)
    (hs : Region.noSelect ops = true) (hf : Region.free md ops listed i = true) (hr : (Region.ready md ops listed).contains i = true)
    (hQ : ∀ c a w, Q (.panic c) (a.put oi.dst undef) w → Q (.panic c) a w) (hw : Region.wanted oi (yielded ops a.tmps) = false) (hS : S w)
    (h : wpAnyH P md ops Q S fuel (listed.setIfInBounds i true) (a.put oi.dst undef) w) : wpAnyH P md ops Q S (fuel + 1) listed a w :=
  wpAnyH_take (ops_at hi) hs hf hr hQ (.inr ⟨hw, rfl⟩) hS h
theorem r_call {i : Nat} {o : Oper} {rest : List Oper} {fuel : Nat} {listed : Array Bool} {a : Act} {w : World} (hr : Region.ready md ops listed = [i]) (hi : ops.toList.drop i = o :: rest)
    (hw : Region.wanted o (yielded ops a.tmps) = true)
    (h : ∀ K' : Act → World → Prop, Shut (∀ a w, S w → (S w → wpAnyH P md ops Q S fuel (listed.setIfInBounds i true) a w) → K' a w) → Oper.wp P o a w K' Q) : wpAnyH P md ops Q S (fuel + 1) listed a w :=
  wpAnyH_ready hr (by simp) (AllReadyH.cons (ops_at hi) (fun K' hK => by rw [if_pos hw]; exact h K' hK) AllReadyH.nil)
end
end Go.Proofs.YtnmjnjhijcnbcaaDoor.H4
