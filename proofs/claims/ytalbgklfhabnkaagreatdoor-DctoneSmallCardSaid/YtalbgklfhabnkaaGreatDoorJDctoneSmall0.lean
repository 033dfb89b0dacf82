/-
  The law DctoneSmall is proved: whatever the input, the call of 'overtone/overtonelaw18.DctoneSmall' returns true, and each argument reads afterwards as it read before. The tables of math/bits hold what the program's text lays (the card's tie). No other condition is laid on the input.
  (The frame follows the kit's proof-skeleton and its worked texts on laid tables; the walk is mine.)
-/
import Derived.Test.YtalbgklfhabnkaaGreatDoorJDctoneSmall2
import Derived.Test.YtalbgklfhabnkaaGreatDoorRows
import Derived.Test.YtalbgklfhabnkaaGreatDoorCards
import Derived.Test.YtalbgklfhabnkaaGreatDoorTie
import Derived.SevenTiedAt
namespace Go.Proofs.YtalbgklfhabnkaaGreatDoor.dctoneSmall
open Go Go.ChangeShapes Go.WideShapes Go.ChangeAt Go.RowKit Go.Proofs.YtalbgklfhabnkaaGreatDoor.Pd
set_option linter.unusedVariables false

set_option maxRecDepth 100000 in
theorem lifted (os : Os) (started : os.Started) (H : Type) (enc : TypeId × Value → H) :
    ReturnsInHanded {} Tryz.checked os 6 .any (fun w args => (Rows.dctoneSmallSpec.pre enc Tryz.prog Tryz.f6 [] false w args ∧ laidMetH Tryz.prog laid2 w) ∧ sizedMet enc Tryz.prog Tryz.f6 (OpenSpec.ofChange Rows.dctoneSmallSpec) false w args)
      (Rows.dctoneSmallSpec.post enc Tryz.prog Tryz.f6 false true false false) := by
  refine returnsInHanded_of_change_and (C := Tryz.checked) (X := fun w _ => laidMetH Tryz.prog laid2 w) (fun _ _ _ hh h => h.of_heap hh) own started (by kernel_rfl) Tryz.func6
    (ChangeSpec.witness_shaped (enc := enc) (C := Tryz.checked) (os := os) (X := fun w _ => laidMetH Tryz.prog laid2 w) false (World.doorLaid Tryz.prog 400 os) #[.int .i16 0, .int .i16 0, .int .i16 0] 8 rfl (World.shaped_of_RefB (by kernel_rfl) (by kernel_rfl)) (by kernel_rfl) (by kernel_rfl) (by kernel_rfl) (door_met os _)) ?_
  intro W base args ds gs before hval0 hW _ hsz0 hL _
  have TT := of_laid hL
  have hval : ∀ (j : Nat) t v, Tryz.f6.params[j]? = some t → args[j]? = some v → Value.okWide Tryz.prog W .any base t v := hval0
  have hW' := hW
  obtain ⟨p, q, hA0, hV, rfl, hfz, hnd⟩ := hW
  have hA : DataW.TrodAll enc Tryz.prog W 0 (fun _ => true) true Tryz.f6.params.toList args.toList ds p := hA0
  have hsz : (DataW.weightsEach Tryz.prog (Tryz.f6.params.toList ++ Rows.dctoneSmallSpec.plain.varTypes Tryz.prog) (ds ++ gs)).all (· ≤ reachBytes) = true := hsz0
  rw [Tryz.params6] at hA hval hsz
  obtain ⟨v0, vs0, d0, ds0, p0, q0, hargs, rfl, rfl, h0, r0⟩ := trodAll_cons hA
  obtain ⟨v1, vs1, d1, ds1, p1, q1, rfl, rfl, rfl, h1, r1⟩ := trodAll_cons r0
  obtain ⟨v2, vs2, d2, ds2, p2, q2, rfl, rfl, rfl, h2, r2⟩ := trodAll_cons r1
  obtain ⟨rfl, rfl, rfl⟩ := trodAll_nil r2
  obtain rfl : args = #[v0, v1, v2] := by cases args; simp_all
  obtain ⟨rfl, rfl⟩ := trodVars_none hV
  obtain ⟨a0, rfl, rfl, rfl, w0⟩ := open_int Tryz.underlying34 (hval 0 34 v0 rfl rfl) h0
  have bd0 := bounds_i16 w0
  obtain ⟨a1, rfl, rfl, rfl, w1⟩ := open_int Tryz.underlying34 (hval 1 34 v1 rfl rfl) h1
  have bd1 := bounds_i16 w1
  obtain ⟨a2, rfl, rfl, rfl, w2⟩ := open_int Tryz.underlying34 (hval 2 34 v2 rfl rfl) h2
  have bd2 := bounds_i16 w2
  clear hA0 hval0
  simp only [List.append_nil] at hW'
  refine (Lp.small18_door a0 a1 a2 W TT  bd0 bd1 bd2).mono fun e W' ⟨he, bel0⟩ => ?_
  have bel := bel0.out
  subst he
  exact ⟨_, rfl, _, _, _, [], _, [], hW', trodAll_mk1 (shut_bool Tryz.underlying4 _), (trodAll_cons_mk (shut_int Tryz.underlying34 w0) (trodAll_cons_mk (shut_int Tryz.underlying34 w1) (trodAll_cons_mk (shut_int Tryz.underlying34 w2) trodAll_mk0))), rfl, bel.frame _, fun h => by cases h⟩

theorem over : Rows.dctoneSmallRow.holds Tryz.pinned (OpenSpec.ofChange Rows.dctoneSmallSpec) :=
  OpenClaim.holds_of_wide 6 Tryz.f6 rfl rfl rfl rfl rfl rfl rfl ⟨rfl, rfl, rfl, rfl, rfl⟩ rfl rfl rfl rfl rfl (by kernel_rfl) Tryz.func6 (by kernel_rfl)
    (of_decide_eq_true (by kernel_rfl)) (by unfold Func.isWrapper; first | (rw [if_pos (by decide +kernel)]; kernel_rfl) | (rw [if_neg (by decide +kernel)]; exact ⟨rfl, rfl⟩))
    (fun os started H enc _ => lifted os started H enc)

/-- ████ THE STATEMENT ████ -/
theorem proved : Rows.DctoneSmallCardSaid :=
  Claim7.holds_tied_plain_at .later [] [.data, .data] true (true, "26b3549ab73740439043a3784967d34ca8e3e8d017cad4b0390f60ff71a52d9d") true
    over (fun _ h => by cases h) (by kernel_rfl) (fun _ h => by cases h) dctoneSmall_row_tie rfl ⟨rfl, rfl⟩ (by kernel_rfl) rfl
    (fun f fn hf hfn => by
      obtain rfl : f = 6 := Option.some.inj ((show Tryz.prog.funcNamed "overtone/overtonelaw18.DctoneSmall" = some 6 by kernel_rfl).symm.trans hf) |>.symm
      obtain rfl : fn = Tryz.f6 := (Option.some.inj (Tryz.func6.symm.trans hfn)).symm
      exact ⟨by kernel_rfl, fun j t ht => by
        rw [Tryz.params6] at ht
        have hm : t ∈ [34, 34, 34] := by simpa using Array.mem_of_getElem? ht
        have hall : ([34, 34, 34].all fun u => !Tryz.prog.wantsStandIn u) = true := by kernel_rfl
        exact (show Tryz.prog.wantsStandIn t = false by simpa using List.all_eq_true.1 hall t hm)⟩)
    (by kernel_rfl)
#print axioms proved
end Go.Proofs.YtalbgklfhabnkaaGreatDoor.dctoneSmall
