/-
  Own words for the walks of this seat, continued.
-/
import Derived.Test.YtnmjnjhijcnbcaaDoorOw
import Derived.Deep.RegionLaw
namespace Go.Proofs.YtnmjnjhijcnbcaaDoor.Ow
open Go.RowKit
theorem Blk.own {w : World} {b e n : Nat} {cs : List Value} (h : Blk w b e cs) (hn : cs.length = n) {B : Nat} (hB : B ≤ b) (hm : n ≤ 1000000000000) : Own w B e 1 (.slice (some ⟨b, 0, none⟩) n n) n cs :=
  ⟨by omega, .inr ⟨b, n, cs.toArray, rfl, hB, h.out, Nat.le_refl _, by simp only [maxLen]; omega, by simp [hn], by simp [← hn]⟩⟩
/-- 'append(s, x)' of one element of one cell, as a step of a region that draws. -/
theorem step_app {P : Program} {w : World} {ops : Array Oper} {o : Oper} {a : Act} {K : Act → World → Prop} {Q : Exit → Act → World → Prop} {E : Prop} (hgd : o.guard = none) (s x : Operand) (t : TypeId)
    (ho : o.op = .call { callee := .builtin .append, args := #[s, x], argTypes := #[t, t] })
    (B e : Nat) (z : Value) (bytes : Nat) (ht : P.underlying t = some (.slice e)) (hinfo : (P.info? e).map (fun i => (i.zero, i.size, i.bytes)) = some (some z, 1, bytes)) (hz1 : z.cells = #[z])
    (v : Value) (n : Nat) (cs : List Value) (u : Value) (hs : a.eval s = v) (hown : Own w B e 1 v n cs) (hx : a.eval x = .slice (some ⟨w.heap.size, 0, none⟩) 1 1) (hu : u.oneCell' = true)
    (h63 : n < 1000000000000) (hbytes : bytes ≤ 100) (hB : B ≤ w.heap.size)
    (hK : ∀ v' w', Own w' B e 1 v' (n + 1) (cs ++ [u]) → Below B w w' → K (a.put o.dst v') w') :
    if Region.wanted o (yielded ops a.tmps) = true then Oper.wp P o a (w.alloc (.cells #[u] e)) K Q else E := by
  have hw : Region.wanted o (yielded ops a.tmps) = true := by simp [Region.wanted, hgd]
  rw [if_pos hw]
  obtain ⟨i, hi, hzz⟩ := Option.map_eq_some_iff.1 hinfo
  simp only [Prod.mk.injEq] at hzz
  obtain ⟨hz, hsz, hb⟩ := hzz
  refine wp_append_own _ s x t ho B e i z 1 bytes ht hi hz hsz hb (by rw [hz1]; rfl) (by decide) v n cs hs (hown.out.alloc _) ⟨w.heap.size, 0, none⟩ 1 1 [u] hx rfl ?_ ?_ ?_ ?_ ?_ ?_
  · intro j u' hj
    cases j with
    | zero => simp at hj; subst hj; simp [Addr.add]
    | succ j => simp at hj
  · intro u' hu'; simp at hu'; subst hu'; exact hu
  · simp only [maxLen]; omega
  · have : (n + 1) * bytes ≤ 1000000000000 * 100 := Nat.mul_le_mul (by omega) hbytes
    omega
  · simp; omega
  · intro v' w' h1 h2 _
    refine hK v' w' ⟨h1⟩ ?_
    have hA : Below B w (w.alloc (.cells #[u] e)) := (Below.refl B w).alloc hB _
    refine hA.grown h2 (by simp; omega) (fun k hk => ?_)
    rcases hown.out.2 with ⟨rfl, _⟩ | ⟨g, cap, cur, rfl, hg, _⟩
    · simp [Value.ownBlock] at hk
    · simp [Value.ownBlock] at hk; omega
end Go.Proofs.YtnmjnjhijcnbcaaDoor.Ow
