/-
  What the proofs of this seat's rows share: the tables that are laid; a dyadic number's reading.
-/
import Derived.Test.YtnmjnjhijcnbcaaDoorRows
import Derived.Test.YtnmjnjhijcnbcaaDoorDt
import Derived.WalkKit
import Derived.ProofKit
import Derived.OpenShut
import Derived.ShutString
import Derived.ChangeOld
import Derived.Below
import Derived.SizedLaws
import Derived.LaidMore
import Derived.Stop.Joined
import Derived.Stop.LaidErr
import Derived.Lib.LaidTab
import Derived.Deep.Strs
set_option linter.unusedVariables false
namespace Go.Proofs.YtnmjnjhijcnbcaaDoor.Pd
open Go Go.ChangeShapes Go.WideShapes Go.ChangeAt Go.RowKit Go.Proofs.YtnmjnjhijcnbcaaDoor.Ow Go.Proofs.YtnmjnjhijcnbcaaDoor.Dt
theorem own : ownKnob Tryd.prog.godebug = none := by kernel_rfl
theorem laidOut : laidOutB Tryd.prog = true := by kernel_rfl
theorem g32 : Tryd.prog.globalNamed "math/bits.deBruijn32tab" = some 1 := by kernel_rfl
theorem g64 : Tryd.prog.globalNamed "math/bits.deBruijn64tab" = some 2 := by kernel_rfl
theorem t64 : (Tryd.prog.globals[2]?).map (·.type) = some 95 := by kernel_rfl
theorem c5 : Tryd.prog.cellsOf 5 = 1 := by kernel_rfl
theorem c64 : Tryd.prog.cellsOf 95 = 64 := by kernel_rfl
abbrev laid2 : List (String × DataW Unit) := [("math/bits.deBruijn32tab", Rows.laid_math_bits_deBruijn32tab), ("math/bits.deBruijn64tab", Rows.laid_math_bits_deBruijn64tab)]
def zs64 : List Int := deB.map (fun n : Nat => (n : Int))
theorem data64 : (Rows.laid_math_bits_deBruijn64tab : DataW Unit) = Lib.tabData .u8 zs64 := by rfl
theorem of_laid {W : World} (h : laidMetH Tryd.prog laid2 W) : Tab W := by
  rw [MakeChecks.laidMetH_plain _ _ _ (by kernel_rfl)] at h
  have h2 := h.tail
  rw [data64] at h2
  have hT := Lib.tabIs_of_head g64 t64 Tryd.underlying95 Tryd.underlying5 c5 c64 h2
  refine ⟨fun i hi => ?_⟩
  rw [hT.cell g64 i (by simpa [zs64, deB] using hi)]
  have hl : i < deB.length := by simpa [deB] using hi
  congr 2
  unfold zs64
  rw [List.getD_eq_getElem?_getD, List.getD_eq_getElem?_getD, List.getElem?_map, List.getElem?_eq_getElem hl]
  rfl
/-- The door's own heap meets the condition. -/
theorem door_met (os : Os) (args : Array Value) : laidMetH Tryd.prog laid2 ((World.doorLaid Tryd.prog 400 os).forCall (fun _ _ => 0) ⟨#[], args, []⟩).memory :=
  laidMetH_of_parts3 (fuel := 8) (laidMet_of_run' 8 (by kernel_rfl) (by kernel_rfl)) (by kernel_rfl) (by kernel_rfl)
theorem c24 : Tryd.prog.cellsOf 24 = 3 := by kernel_rfl
theorem c4 : Tryd.prog.cellsOf 4 = 1 := by kernel_rfl
theorem c22 : Tryd.prog.cellsOf 22 = 1 := by kernel_rfl
theorem c3 : Tryd.prog.cellsOf 3 = 1 := by kernel_rfl
theorem bytes3 : Tryd.prog.bytesOf 3 = 8 := by kernel_rfl
/-- A dyadic number that came in. -/
theorem open_dya {H : Type} {enc : TypeId × Value → H} {W : World} {base : Nat} {v : Value} {d : DataW H} {p : List MemPlace} (hval : Value.okWide Tryd.prog W .any base 24 v) (hd : DataW.Trod enc Tryd.prog W 0 (fun _ => true) true 24 v d p)
    (hsz : ∀ n ∈ d.weights Tryd.prog 24, n ≤ reachBytes) :
    ∃ (n : Bool) (A : Option Addr) (c : Nat) (l : List Int) (e : Int), v = .agg #[.bool n, .slice A l.length c, .int .i64 e] ∧ l.length ≤ c ∧ Rd W A l ∧ -9223372036854775808 ≤ e ∧ e ≤ 9223372036854775807 := by
  obtain ⟨cs, rfl, hcs⟩ := okWide_struct Tryd.underlying24 hval
  rw [c24] at hcs
  obtain ⟨fuel, hf⟩ := hd
  obtain ⟨y0, y1, y2, n, hx, hl, t0, t1, t2⟩ := Deep.trod_struct3 Tryd.underlying24 hf
  obtain ⟨l⟩ := cs
  match l, hcs with
  | [x0, x1, x2], _ =>
    simp only [c4, c22, c3, Value.cells] at t0 t1 t2
    simp only [List.drop_zero, List.take_succ_cons, List.take_zero, List.drop_succ_cons] at t0 t1 t2
    obtain ⟨b, h0, _⟩ := DataW.trod_bool Tryd.underlying4 t0
    obtain ⟨e, h2, _, hw⟩ := DataW.trod_int Tryd.underlying3 t2
    simp only [List.cons.injEq, and_true] at h0 h2
    subst h0 h2
    have hy1 : ∀ n ∈ y1.1.weights Tryd.prog 22, n ≤ reachBytes := fun n hn => hsz n (by
      rw [show d = DataW.agg [y0.1, y1.1, y2.1] from congrArg Prod.fst hx]
      simp only [DataW.weights, Tryd.underlying24, List.map_cons, List.map_nil, DataW.weightsEach, List.mem_append]
      exact .inr (.inl hn))
    simp only [Lit.wf, Bool.and_eq_true, decide_eq_true_eq] at hw
    rcases open_ints Tryd.underlying22 Tryd.underlying3 c3 t1 with ⟨h1, _⟩ | ⟨x, ln, cp, zs, h1, _, hle, _, hz, hx1, hcell, _⟩
    · simp only [List.cons.injEq, and_true] at h1
      subst h1
      exact ⟨b, none, 0, [], e, rfl, Nat.le_refl _, Rd.nil _ _, hw.1, hw.2⟩
    · simp only [List.cons.injEq, and_true] at h1
      subst h1
      rw [if_pos rfl] at hz
      have hq : cp * 8 ≤ reachBytes := by
        have := hy1 ((cp) * 8) (by
          rw [congrArg Prod.fst hx1]
          simp only [DataW.weights, Tryd.underlying22, bytes3, lits, List.length_map, List.length_take, List.length_drop, List.mem_cons]
          exact .inl (by rw [hz, show min ln cp = ln from Nat.min_eq_left hle, Nat.add_sub_cancel' hle]))
        exact this
      have hr : cp ≤ 17592186043904 := by
        have e8 : cp * 8 ≤ 17592186043904 * 8 := Nat.le_trans hq (by decide)
        exact Nat.le_of_mul_le_mul_right e8 (by decide)
      have hmin : (zs.take ln).length = ln := by rw [List.length_take, hz]; exact Nat.min_eq_left hle
      refine ⟨b, some x, cp, zs.take ln, e, by rw [hmin], by rw [hmin]; exact hle, ⟨by rw [hmin]; exact Nat.le_trans hle (Nat.le_trans hr (by decide)), fun j hj => ⟨x, rfl, ?_⟩⟩, hw.1, hw.2⟩
      have hj' : j < ln := by rw [hmin] at hj; exact hj
      have hjz : j < zs.length := by rw [hz]; exact Nat.lt_of_lt_of_le hj' hle
      rw [hcell j hjz, nth_lt hj, List.getElem_take]
      simp [List.getD_eq_getElem?_getD, hjz]
end Go.Proofs.YtnmjnjhijcnbcaaDoor.Pd
