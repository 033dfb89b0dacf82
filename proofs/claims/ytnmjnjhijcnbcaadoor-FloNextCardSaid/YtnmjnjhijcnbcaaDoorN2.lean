/-
  The walks of package nat: sums and differences, limb by limb.
-/
import Derived.Test.YtnmjnjhijcnbcaaDoorN1
set_option linter.unusedVariables false
namespace Go.Proofs.YtnmjnjhijcnbcaaDoor.N2
open Go.RowKit Go.Proofs.YtnmjnjhijcnbcaaDoor Go.Proofs.YtnmjnjhijcnbcaaDoor.Ow Go.Proofs.YtnmjnjhijcnbcaaDoor.Pl Go.Proofs.YtnmjnjhijcnbcaaDoor.N1
theorem info3 : (Tryd.prog.info? 3).map (fun i => (i.zero, i.size, i.bytes)) = some (some (.int .i64 0), 1, 8) := by kernel_rfl
theorem size3 : (Tryd.prog.info? 3).map (·.size) = some 1 := by kernel_rfl

/-- A limb, or 0 behind all. -/
theorem get_calls (A : Option Addr) (c : Nat) (l : List Int) (i : Nat) (w : World) (h : Rd w A l) :
    Calls Tryd.prog 101 #[.slice A l.length c, .int .i64 (i : Int)] w fun e w' => e = .returned (.int .i64 (nth l i)) ∧ w = w' := by
  have hm := h.max
  by_cases hl : i < l.length
  · obtain ⟨ad, rfl, x⟩ := h.cell i hl
    clear h
    go_enter Tryd.func101, Tryd.ntmps101
    go_wp2
    go_ret
    exact ⟨rfl, rfl⟩
  · have e : Ho (nth l i = 0) := ⟨nth_ge (by omega)⟩
    clear h
    go_enter Tryd.func101, Tryd.ntmps101
    go_wp2
    go_ret
    exact ⟨by rw [e.out]; rfl, rfl⟩
/-- A limb of a sum; what goes over is kept. -/
theorem put_calls (b0 : Nat) (cr s : Int) (w : World) (h : Blk w b0 84 [.int .i64 cr]) (h1 : -562949953421312 ≤ s) (h2 : s ≤ 562949953421312) (h3 : -562949953421312 ≤ cr) (h4 : cr ≤ 562949953421312) :
    Calls Tryd.prog 84 #[.pointer (some ⟨b0, 0, none⟩), .int .i64 s] w fun e w' => e = .returned (.int .i64 ((s + cr) % 16777216)) ∧ w.setCell ⟨b0, 0, none⟩ (.int .i64 ((s + cr) / 16777216)) = w' := by
  have a0 := h.cell (i := 0) (v := .int .i64 cr) rfl
  have a1 := h.free 0
  clear h
  go_enter Tryd.func84, Tryd.ntmps84
  go_wp2
  go_ret
  exact ⟨by rw [← i64_mask24]; rfl, rfl⟩
theorem add1_calls (b0 b1 : Nat) (cr x y : Int) (w : World) (h : Blk w b0 84 [.int .i64 cr]) (hB1 : Blk w b1 85 [.func (.func 84) #[.pointer (some ⟨b0, 0, none⟩)] #[]])
    (h1 : 0 ≤ x) (h2 : x < 16777216) (h1' : 0 ≤ y) (h2' : y < 16777216) (h3 : 0 ≤ cr) (h4 : cr ≤ 2) :
    Calls Tryd.prog 86 #[.int .i64 x, .int .i64 y, .pointer (some ⟨b1, 0, none⟩)] w fun e w' => e = .returned (.int .i64 ((x + y + cr) % 16777216)) ∧ w.setCell ⟨b0, 0, none⟩ (.int .i64 ((x + y + cr) / 16777216)) = w' := by
  have a2 := hB1.cell (i := 0) rfl
  have H := Ho.mk h
  clear h hB1
  go_enter Tryd.func86, Tryd.ntmps86
  go_wp2_with (go_at_call 84; refine (put_calls _ cr _ _ H.out (by omega) (by omega) (by omega) (by omega)).mono ?_; rintro e w' ⟨rfl, rfl⟩)
  go_ret
  exact ⟨rfl, rfl⟩
theorem sub1_calls (b0 : Nat) (cr x y : Int) (w : World) (h : Blk w b0 84 [.int .i64 cr])
    (h1 : 0 ≤ x) (h2 : x < 16777216) (h1' : 0 ≤ y) (h2' : y < 16777216) (h3 : -1 ≤ cr) (h4 : cr ≤ 0) :
    Calls Tryd.prog 88 #[.int .i64 x, .int .i64 y, .pointer (some ⟨b0, 0, none⟩)] w fun e w' => e = .returned (.int .i64 ((x - y + cr) % 16777216)) ∧ w.setCell ⟨b0, 0, none⟩ (.int .i64 ((x - y + cr) / 16777216)) = w' := by
  have H := Ho.mk h
  clear h
  go_enter Tryd.func88, Tryd.ntmps88
  go_wp2_with (go_at_call 84; refine (put_calls _ cr _ _ H.out (by omega) (by omega) (by omega) (by omega)).mono ?_; rintro e w' ⟨rfl, rfl⟩)
  go_ret
  exact ⟨rfl, rfl⟩
end Go.Proofs.YtnmjnjhijcnbcaaDoor.N2
