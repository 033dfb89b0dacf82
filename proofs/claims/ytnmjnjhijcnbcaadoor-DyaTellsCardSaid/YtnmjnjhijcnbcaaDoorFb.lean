/-
  The walk of DyaTells, a row that is too long (its steps are printed by gen2.py).
-/
import Derived.Test.YtnmjnjhijcnbcaaDoorF3
import Derived.Test.YtnmjnjhijcnbcaaDoorF2
import Derived.Test.YtnmjnjhijcnbcaaDoorF6
import Derived.Deep.RegionHeld3
import Derived.Deep.DrawnRows
import Derived.Deep.QuietTactic
import Derived.BigQuiet
set_option linter.unusedVariables false
set_option linter.unusedSimpArgs false
namespace Go.Proofs.YtnmjnjhijcnbcaaDoor.Fb
open Go Go.RowKit Go.Proofs.YtnmjnjhijcnbcaaDoor Go.Proofs.YtnmjnjhijcnbcaaDoor.Ow Go.Proofs.YtnmjnjhijcnbcaaDoor.Pl Go.Proofs.YtnmjnjhijcnbcaaDoor.Dp Go.Proofs.YtnmjnjhijcnbcaaDoor.Dt Go.Proofs.YtnmjnjhijcnbcaaDoor.D3 Go.Proofs.YtnmjnjhijcnbcaaDoor.E7 Go.Proofs.YtnmjnjhijcnbcaaDoor.F1

set_option maxRecDepth 100000 in
set_option maxHeartbeats 8000000 in
theorem long_calls (n0 : Bool) (A0 : Option Addr) (c0 : Nat) (l0 : List Int) (e0 : Int) (n1 : Bool) (A1 : Option Addr) (c1 : Nat) (l1 : List Int) (e1 : Int) (n2 : Bool) (A2 : Option Addr) (c2 : Nat) (l2 : List Int) (e2 : Int) (a3 : Int) (a4 : Bool) (a5 : Int) (w : World) (T : Tab w) (h0 : Rd w A0 l0) (k0 : l0.length ≤ c0) (h1 : Rd w A1 l1) (k1 : l1.length ≤ c1) (h2 : Rd w A2 l2) (k2 : l2.length ≤ c2) (hl : 400 < l0.length) :
    Calls Tryd.prog 3 #[.agg #[.bool n0, .slice A0 l0.length c0, .int .i64 e0], .agg #[.bool n1, .slice A1 l1.length c1, .int .i64 e1], .agg #[.bool n2, .slice A2 l2.length c2, .int .i64 e2], .int .u8 a3, .bool a4, .int .i64 a5] w (Tells w (.bool true)) := by
  have TT := Ho.mk T
  have hd : decide (400 < (l0.length : Int)) = true := decide_eq_true (by omega)
  clear T hl
  go_enter Tryd.func3, Tryd.ntmps3
  go_wp2_with fail
  have KB0 := Ho.mk (((Blk.new w [.bool n0, .slice A0 l0.length c0, .int .i64 e0] 24).old (.cells #[.bool n1, .slice A1 l1.length c1, .int .i64 e1] 24)).old (.cells #[.bool n2, .slice A2 l2.length c2, .int .i64 e2] 24))
  have KB1 := Ho.mk ((Blk.new (w.alloc (.cells #[.bool n0, .slice A0 l0.length c0, .int .i64 e0] 24)) [.bool n1, .slice A1 l1.length c1, .int .i64 e1] 24).old (.cells #[.bool n2, .slice A2 l2.length c2, .int .i64 e2] 24))
  have KB2 := Ho.mk (Blk.new ((w.alloc (.cells #[.bool n0, .slice A0 l0.length c0, .int .i64 e0] 24)).alloc (.cells #[.bool n1, .slice A1 l1.length c1, .int .i64 e1] 24)) [.bool n2, .slice A2 l2.length c2, .int .i64 e2] 24)
  have g0 := (((Bel.refl w).alloc (.cells #[.bool n0, .slice A0 l0.length c0, .int .i64 e0] 24)).alloc (.cells #[.bool n1, .slice A1 l1.length c1, .int .i64 e1] 24)).alloc (.cells #[.bool n2, .slice A2 l2.length c2, .int .i64 e2] 24)
  rw [World.size_alloc] at KB1
  rw [World.size_alloc, World.size_alloc] at KB2
  have hZ : (((w.alloc (.cells #[.bool n0, .slice A0 l0.length c0, .int .i64 e0] 24)).alloc (.cells #[.bool n1, .slice A1 l1.length c1, .int .i64 e1] 24)).alloc (.cells #[.bool n2, .slice A2 l2.length c2, .int .i64 e2] 24)) = (((w.alloc (.cells #[.bool n0, .slice A0 l0.length c0, .int .i64 e0] 24)).alloc (.cells #[.bool n1, .slice A1 l1.length c1, .int .i64 e1] 24)).alloc (.cells #[.bool n2, .slice A2 l2.length c2, .int .i64 e2] 24)) := rfl
  generalize (((w.alloc (.cells #[.bool n0, .slice A0 l0.length c0, .int .i64 e0] 24)).alloc (.cells #[.bool n1, .slice A1 l1.length c1, .int .i64 e1] 24)).alloc (.cells #[.bool n2, .slice A2 l2.length c2, .int .i64 e2] 24)) = w0 at *
  clear hZ
  (with_reducible refine (F3.head_calls _ (TT.out.bel g0)).mono ?_); rintro e w1 ⟨rfl, b1⟩
  have K0_1 := Ho.mk (KB0.out.bel b1)
  have y0_0 := K0_1.out.cell (i := 0) rfl
  have y0_1 := K0_1.out.cell (i := 1) rfl
  have y0_2 := K0_1.out.cell (i := 2) rfl
  go_wp2_with fail
  go_quiet (fail)
  --@@
  have HE := Ho.mk (g0.trans b1)
  go_wp2
  go_ret
  exact ⟨rfl, HE.out.drewN _⟩
end Go.Proofs.YtnmjnjhijcnbcaaDoor.Fb
