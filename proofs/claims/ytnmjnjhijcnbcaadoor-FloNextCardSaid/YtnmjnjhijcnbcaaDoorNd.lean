/-
  The walk of package nat's Int: a range over slices.Backward.
-/
import Derived.Test.YtnmjnjhijcnbcaaDoorN6
import Derived.RangeFuncNested
import Derived.RangeFuncBound
import Derived.RangeFuncCalls
import Derived.RangeFuncLeaves
import Derived.RangeFuncBox
import Derived.Shelf.Abstract
import Derived.Shelf.RegionOpen
import Derived.OwnWalkIn
import Derived.TacticsInMore
import Derived.LoopNIn
import Derived.LoopIn
set_option linter.unusedVariables false
namespace Go.Proofs.YtnmjnjhijcnbcaaDoor.Nd
open Go.RowKit Go.Shelf Go.Proofs Go.Proofs.YtnmjnjhijcnbcaaDoor Go.Proofs.YtnmjnjhijcnbcaaDoor.Ow Go.Proofs.YtnmjnjhijcnbcaaDoor.Pl
attribute [local go_sem] Oper.semAt_some

def upto {α : Type} (f : Nat → α) (k : Nat) : List α := (List.range k).map f
theorem upto_succ {α : Type} (f : Nat → α) (k : Nat) : upto f (k + 1) = upto f k ++ [f k] := by simp [upto, List.range_succ]
theorem upto_length {α : Type} (f : Nat → α) (k : Nat) : (upto f k).length = k := by simp [upto]
/-- What comes, from behind. -/
def back (l : List Int) (t : Nat) : Int × Int := ((l.length - 1 - t : Nat), nth l (l.length - 1 - t))

/-- What a round keeps: every block below m but b. -/
structure Kx (m b : Nat) (W W' : World) : Prop where
  blk : ∀ k, k < m → k ≠ b → W'.heap[k]? = W.heap[k]?
theorem Kx.refl (m b : Nat) (W : World) : Kx m b W W := ⟨fun _ _ _ => rfl⟩
theorem Kx.trans {m b : Nat} {A B C : World} (h : Kx m b A B) (k : Kx m b B C) : Kx m b A C := ⟨fun i h1 h2 => (k.blk i h1 h2).trans (h.blk i h1 h2)⟩
theorem Kx.cell {m b : Nat} {A B : World} (h : Kx m b A B) {p : Addr} (h1 : p.block < m) (h2 : p.block ≠ b) : B.cell? p = A.cell? p := by
  unfold World.cell?; rw [h.blk _ h1 h2]
theorem Kx.put {m b : Nat} {w : World} (hm : m ≤ w.heap.size) (W : World) (l : Nat) (o o' : Obj) (hl : w.heap.size ≤ l) : Kx m b W (W.putObj l o') :=
  ⟨fun k h1 _ => World.putObj_heap_other (by omega)⟩
theorem rd_kx {m b n₀ : Nat} {W W' : World} {A : Option Addr} {l : List Int} (h : RdB n₀ W A l) (k : Kx m b W W') (h1 : n₀ ≤ m) (h2 : n₀ ≤ b) : Rd W' A l :=
  ⟨h.rd.max, fun j hj => by
    obtain ⟨ad, e, hc⟩ := h.rd.cell j hj
    have := h.lt ad e (by omega)
    exact ⟨ad, e, (k.cell (by rw [add_block]; omega) (by rw [add_block]; omega)).trans hc⟩⟩

set_option maxRecDepth 100000 in
set_option maxHeartbeats 2000000 in
theorem back1_in (F : Fence) (n : Nat) (h51 : F.fn 110) (hro : F.round = none) (hn : 1 ≤ n) (lp Bs n₀ m b c : Nat) (hm1 : n₀ ≤ m) (hm2 : n₀ ≤ b) (A : Option Addr) (l : List Int) (hml : l.length ≤ 35184372088831) (J Jx : List (Int × Int) → World → Prop)
    (hY : ∀ pre x W, J pre W → pre.length < l.length → YieldAt F (n - 1) Tryd.prog lp #[.int .i64 x.1, .int .i64 x.2] W fun e W' =>
      (e = .returned (.bool true) ∧ J (pre ++ [x]) W' ∧ Kx m b W W') ∨ (e = .returned (.bool false) ∧ Jx (pre ++ [x]) W'))
    (W : World) (hBs : W.cell? ⟨Bs, 0, none⟩ = some (.slice A l.length c)) (hBn : Bs < m) (hBb : Bs ≠ b) (hl : RdB n₀ W A l) (h0 : J [] W) :
    CallsIn F n Tryd.prog 110 #[.func (.yield lp) #[] #[], .pointer (some ⟨Bs, 0, none⟩)] W fun e W' => (∃ v, e = .returned v) ∧
      ((∃ ys, ys = upto (back l) l.length ∧ J ys W') ∨ (∃ pre, (∃ k, k ≤ l.length ∧ pre = upto (back l) k) ∧ Jx pre W')) := by
  refine callsIn_of_wp Tryd.func110 rfl h51 ?_ hro
  simp only [Tryd.ntmps110, List.size_toArray, List.length_cons, List.length_nil, Nat.reduceAdd, Nat.reduceSub, Array.replicate_succ, Array.replicate_zero, List.push_toArray, List.append_toArray, List.nil_append, List.cons_append]
  have HL := Ho.mk hl
  clear hl
  gi_wp2
  gi_loopw [3] (fun i wr => ∃ (k : Nat) (j : Int), k ≤ l.length ∧ i = .int .i64 j ∧ -1 ≤ j ∧ j < l.length ∧ Ho (j = (l.length : Int) - 1 - k) ∧ J (upto (back l) k) wr ∧ Kx m b W wr)
    (fun i _ => (intOf i + 1).toNat)
  case atStart => exact ⟨0, _, Nat.zero_le _, rfl, by omega, by omega, ⟨by omega⟩, h0, Kx.refl _ _ _⟩
  case round =>
    obtain ⟨k, j, hk, rfl, hj0, hj1, hjk, hJs, hnx⟩ := hrel
    have hBs' : wr.cell? ⟨Bs, 0, none⟩ = some (.slice A l.length c) := (hnx.cell (p := ⟨Bs, 0, none⟩) hBn hBb).trans hBs
    rcases Int.lt_or_le j 0 with hneg | hpos
    · have hkl : Ho (k = l.length) := ⟨by have := hjk.out; omega⟩
      gi_wp2
      go_end0
      rw [hkl.out] at hJs
      exact ⟨⟨_, rfl⟩, .inl ⟨_, rfl, hJs⟩⟩
    · obtain ⟨t, rfl⟩ := Int.eq_ofNat_of_zero_le hpos
      have htk : Ho (back l k = ((t : Int), nth l t)) := ⟨by
        have : t = l.length - 1 - k := by have := hjk.out; omega
        rw [this]; rfl⟩
      have hkl : k < l.length := by have := hjk.out; omega
      have htl : t < l.length := by omega
      obtain ⟨ad, rfl, x0⟩ := (rd_kx HL.out hnx hm1 hm2).cell t htl
      obtain ⟨fn, tmps, assign, body, hy, hR⟩ := hY _ ((t : Int), nth l t) wr hJs (by rw [upto_length]; exact hkl)
      dsimp only at hy
      gi_wp2
      refine hR.mono ?_
      rintro e W3 (⟨rfl, hJ3, hk3⟩ | ⟨rfl, hJx3⟩)
      · gi_wp2
        go_roundw
        case rel => exact ⟨k + 1, (t : Int) - 1, by omega, rfl, by omega, by omega, ⟨by have := hjk.out; omega⟩, by rw [upto_succ, htk.out]; exact hJ3, hnx.trans hk3⟩
        case measure => simp [intOf]
      · gi_wp2
        refine bodyPost_ret (results_none rfl _ _ _) rfl ?_
        exact ⟨⟨_, rfl⟩, .inr ⟨_, ⟨k + 1, by omega, by rw [upto_succ, htk.out]⟩, hJx3⟩⟩

theorem back_in (F : Fence) (n : Nat) (h : F.fn 107) (hro : F.round = none) (a : Option Addr) (len cap : Nat) (w : World) :
    CallsIn F n Tryd.prog 107 #[.slice a len cap] w fun e w' => e = .returned (.func (.func 110) #[] #[.pointer (some ⟨w.heap.size, 0, none⟩)]) ∧ w' = w.alloc (.cells #[.slice a len cap] 22) := by
  refine callsIn_of_wp Tryd.func107 rfl h ?_ hro
  simp only [Tryd.ntmps107, List.size_toArray, List.length_cons, List.length_nil, Nat.reduceAdd, Nat.reduceSub, Array.replicate_succ, Array.replicate_zero, List.push_toArray, List.append_toArray, List.nil_append, List.cons_append]
  gi_wp2
  go_ret
  exact ⟨rfl, rfl⟩

theorem back_stops (F : Fence) (n : Nat) (h51 : F.fn 110) (hro : F.round = none) (hn : 1 ≤ n) (Bs n₀ m b c : Nat) (hm1 : n₀ ≤ m) (hm2 : n₀ ≤ b) (A : Option Addr) (l : List Int) (hml : l.length ≤ 35184372088831) (w : World) (hm : m ≤ w.heap.size)
    (hBs : w.cell? ⟨Bs, 0, none⟩ = some (.slice A l.length c)) (hBn : Bs < m) (hBb : Bs ≠ b) (hl : RdB n₀ w A l) :
    SeqStopsK F n Tryd.prog 110 #[.pointer (some ⟨Bs, 0, none⟩)] (fun x : Int × Int => #[Value.int .i64 x.1, Value.int .i64 x.2]) (Kx m b) (fun ys => ys = upto (back l) l.length)
      (fun pre => ∃ k, k ≤ l.length ∧ pre = upto (back l) k) l.length w := fun lp J Jx W hW _ _ hY h0 =>
  back1_in F n h51 hro hn lp Bs n₀ m b c hm1 hm2 A l hml J Jx hY W ((hW.cell (p := ⟨Bs, 0, none⟩) (by simp only; omega)).trans hBs) hBn hBb ⟨hl.below (hW.mono (by omega)), hl.lt⟩ h0

/-! ### what is reckoned -/
def stepI (n x : Int) : Int := bits .or .i64 (wrap64 (n * 16777216)) x
def foldI (pre : List (Int × Int)) : Int := pre.foldl (fun n x => stepI n x.2) 0
theorem foldI_snoc (pre : List (Int × Int)) (x : Int × Int) : foldI (pre ++ [x]) = stepI (foldI pre) x.2 := by simp [foldI]
theorem foldI_upto (l : List Int) (hl : Lims l) (hv : val l < 4611686018427387904) : ∀ k, k ≤ l.length → foldI (upto (back l) k) = val (l.drop (l.length - k)) := by
  intro k
  induction k with
  | zero => intro _; simp [upto, foldI, val]
  | succ k ih =>
    intro hk
    have e := ih (by omega)
    have hd := drop_step l (l.length - (k + 1))
    rw [show l.length - (k + 1) + 1 = l.length - k from by omega] at hd
    rw [upto_succ, foldI_snoc, e, hd]
    show stepI (val (l.drop (l.length - k))) (nth l (l.length - 1 - k)) = _
    rw [show l.length - 1 - k = l.length - (k + 1) from by omega]
    have h1 := val_drop_le hl (l.length - (k + 1))
    rw [hd] at h1
    have h2 := hl.nth (l.length - (k + 1))
    have h3 := val_nonneg (hl.drop (l.length - k))
    generalize val (l.drop (l.length - k)) = v at h1 h3 ⊢
    generalize nth l (l.length - (k + 1)) = x at h1 h2 ⊢
    unfold stepI
    rw [wrap_id (by omega) (by omega), show bits .or .i64 (v * 16777216) x = bits .or .i64 x (v * 16777216) from by simp only [bits, BitVec.or_comm], or_low 24 (by decide) h2.1 (by omega) (by omega) (by omega) (by omega)]
    omega

set_option maxRecDepth 100000 in
set_option maxHeartbeats 2000000 in
theorem intYes_in (F : Fence) (n : Nat) (h18 : F.fn 99) (h26 : F.fn 63) (h41 : F.fn 107) (h51 : F.fn 110) (hro : F.round = none) (hn : 3 ≤ n) (A : Option Addr) (c x : Nat) (w : World) (h : Rd w A (digs x)) (hx : blen x ≤ 62)
    (hlen : ∀ W, Rd W A (digs x) → CallsIn F (n - 1) Tryd.prog 63 #[.slice A (digs x).length c] W fun e w' => e = .returned (.int .i64 (blen x)) ∧ W = w') :
    CallsIn F n Tryd.prog 99 #[.slice A (digs x).length c] w fun e W' => e = .returned (.tuple #[.int .i64 (x : Int), .bool true]) ∧ Bel w W' := by
  have h1 : 1 ≤ n := by omega
  have hm := h.max
  have HV : Ho (foldI (upto (back (digs x)) (digs x).length) = (x : Int)) := ⟨by
    have hv : val (digs x) < 4611686018427387904 := by
      rw [digs_val]; have := blen_le.1 hx; have e : (2 : Nat) ^ 62 = 4611686018427387904 := by decide
      omega
    rw [foldI_upto _ (digs_can x).1 hv _ (Nat.le_refl _), Nat.sub_self, List.drop_zero, digs_val]⟩
  have hd : decide (((blen x : Nat) : Int) > 62) = false := decide_eq_false (by omega)
  have HC := Ho.mk hlen
  have HR := Ho.mk h.rdB
  clear hlen hx
  generalize digs x = l at *
  generalize blen x = bl at *
  refine callsIn_of_wp_marks Tryd.func99 rfl h18 ?_ hro
  simp only [Tryd.ntmps99, List.size_toArray, List.length_cons, List.length_nil, Nat.reduceAdd, Nat.reduceSub, Array.replicate_succ, Array.replicate_zero, List.push_toArray, List.append_toArray, List.nil_append, List.cons_append]
  gi_wp2_with (first | (gi_at_call 63; refine (HC.out _ HR.out.rd).mono ?_; rintro e w' ⟨rfl, rfl⟩) | (gi_at_call 107; refine (back_in F (n - 1) h41 hro _ _ _ _).mono ?_; rintro e w' ⟨rfl, rfl⟩))
  have bS := Boxed.new w 3 (.int .i64 0)
  have bN := Boxed.new (w.alloc (.cells #[.int .i64 0] 3)) 22 (.slice A l.length c)
  rw [World.size_alloc] at bN
  have hB0 : Below w.heap.size w ((w.alloc (.cells #[.int .i64 0] 3)).alloc (.cells #[.slice A l.length c] 22)) := ((Below.refl _ w).alloc (Nat.le_refl _) _).alloc (by simp) _
  refine wpIn_rangeFunc_ownF hro h1 (gf := 110) (lb := #[.pointer (some ⟨w.heap.size + 1, 0, none⟩)]) rfl h51 (enters_of Tryd.func110 (by kernel_rfl) rfl)
    (back_stops F (n - 1) h51 hro (by omega) (w.heap.size + 1) w.heap.size (w.heap.size + 2) w.heap.size c (by omega) (Nat.le_refl _) A l hm _ (by simp) bN.cell (by omega) (by omega) ⟨HR.out.below hB0, HR.out.lt⟩)
    Kx.trans (fun W l' o o' hl' _ _ _ => Kx.put (by simp) W l' o o' hl') (Below.refl _ _) (fun _ => rfl)
    (fun pre W => (W.cell? ⟨w.heap.size, 0, none⟩ = some (.int .i64 (foldI pre)) ∧ W.frozen? ⟨w.heap.size, 0, none⟩ = false) ∧ Below w.heap.size w W)
    (fun _ _ _ => False)
    (OwnFrom.and (Go.Own.from (fun s A B row hs hg hr => ⟨cell_kept hs.1 hg hr, (frozen_kept hs.1 hg hr).trans hs.2⟩) _) (ownFrom_below (Nat.le_refl _) (by simp; omega)))
    (fun _ _ _ _ _ hs _ _ => hs)
    ⟨⟨(bS.alloc _).cell, (bS.alloc _).frozen⟩, hB0⟩
    (fun y => { tmps := #[.slice A l.length c, undef, .int .i64 0, .bool false, .pointer (some ⟨w.heap.size, 0, none⟩), undef, .int .i64 y.2, .slice A l.length c, .int .i64 bl, .bool false, .slice A l.length c, .func (.func 110) #[] #[.pointer (some ⟨w.heap.size + 1, 0, none⟩)], .int .i64 y.1, .int .i64 y.2, undef, undef, undef, undef, undef], defers := [] }) ?assign ?body ?done ?stop
  case assign =>
    intro l' y W K hK
    gi_wp2
    exact hK
  case body =>
    rintro l' pre y W ⟨⟨hc, hf⟩, hB⟩ _
    gi_wp2
    exact ⟨KeepsOthers.setCell _ _ _, ⟨fun k _ hne => Below.heap_setCell _ _ _ _ hne⟩, ⟨by rw [foldI_snoc]; exact World.cell?_setCell_same' _ _ _ (by rw [hc]; rfl), by rw [World.frozen?_setCell]; exact hf⟩, hB.setCell (p := ⟨w.heap.size, 0, none⟩) (Nat.le_refl _) _⟩
  case done =>
    rintro D ys W hD rfl ⟨⟨hc, _⟩, hB⟩ hK
    rw [HV.out] at hc
    gi_wp2
    refine ⟨by simp, .inl ⟨_, _, rfl, run_takeDeferred hK, ?_⟩⟩
    exact ⟨.tuple #[.int .i64 (x : Int), .bool true], by simp [results, Tryd.f99, go_sem], rfl, ⟨hB.trans (belowK_b (w := w) (Nat.le_refl _) W D _ _ (by simp at hD; omega) hK rfl rfl)⟩⟩
  case stop =>
    rintro D c pre W _ _ h _
    exact h.elim

set_option maxRecDepth 100000 in
theorem intNo_in (F : Fence) (n : Nat) (h18 : F.fn 99) (h26 : F.fn 63) (hro : F.round = none) (hn : 3 ≤ n) (A : Option Addr) (c x : Nat) (w : World) (h : Rd w A (digs x)) (hx : 62 < blen x)
    (hlen : ∀ W, Rd W A (digs x) → CallsIn F (n - 1) Tryd.prog 63 #[.slice A (digs x).length c] W fun e w' => e = .returned (.int .i64 (blen x)) ∧ W = w') :
    CallsIn F n Tryd.prog 99 #[.slice A (digs x).length c] w fun e W' => e = .returned (.tuple #[.int .i64 0, .bool false]) ∧ Bel w W' := by
  have h1 : 1 ≤ n := by omega
  have hd : decide (((blen x : Nat) : Int) > 62) = true := decide_eq_true (by omega)
  have HC := Ho.mk hlen
  clear hlen hx
  generalize digs x = l at *
  generalize blen x = bl at *
  refine callsIn_of_wp_marks Tryd.func99 rfl h18 ?_ hro
  simp only [Tryd.ntmps99, List.size_toArray, List.length_cons, List.length_nil, Nat.reduceAdd, Nat.reduceSub, Array.replicate_succ, Array.replicate_zero, List.push_toArray, List.append_toArray, List.nil_append, List.cons_append]
  gi_wp2_with (gi_at_call 63; refine (HC.out _ h).mono ?_; rintro e w' ⟨rfl, rfl⟩)
  exact ⟨.tuple #[.int .i64 0, .bool false], by simp [results, Tryd.f99, go_sem], rfl, Bel.refl _⟩

theorem intYes_calls (A : Option Addr) (c x : Nat) (w : World) (h : Rd w A (digs x)) (hx : blen x ≤ 62) :
    Calls Tryd.prog 99 #[.slice A (digs x).length c] w fun e w' => e = .returned (.tuple #[.int .i64 (x : Int), .bool true]) ∧ Bel w w' :=
  callsIn_wide.1 (intYes_in Fence.wide 3 trivial trivial trivial trivial rfl (Nat.le_refl _) A c x w h hx fun W g => callsIn_wide.2 (N6.natLen_calls A c x W g))
theorem intNo_calls (A : Option Addr) (c x : Nat) (w : World) (h : Rd w A (digs x)) (hx : 62 < blen x) :
    Calls Tryd.prog 99 #[.slice A (digs x).length c] w fun e w' => e = .returned (.tuple #[.int .i64 0, .bool false]) ∧ Bel w w' :=
  callsIn_wide.1 (intNo_in Fence.wide 3 trivial trivial rfl (Nat.le_refl _) A c x w h hx fun W g => callsIn_wide.2 (N6.natLen_calls A c x W g))
end Go.Proofs.YtnmjnjhijcnbcaaDoor.Nd
