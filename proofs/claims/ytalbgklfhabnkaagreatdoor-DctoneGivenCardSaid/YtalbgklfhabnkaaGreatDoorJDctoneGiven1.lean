/-
  Joined, of what this claim leans on: W4, W5, Yh, Yi, P8, Pc, Pe, Pg, Y3, Y4, Y1, Y5, Y6, Kc, Ka, Y7, Pj, Pk, Lv, Pf, Z4, Kb, Kd, Ke, Le, Kf, Lg, Ln.
-/
import Derived.OrdersIn
import Derived.OwnWalkIn
import Derived.RangeFuncCalls
import Derived.OrdersHeld
import Derived.Laws.Cover2
import Derived.RegionIn
import Derived.Deep.AppendLies
import Derived.Deep.Slices
import Derived.ChangeSame
import Derived.Laws.CopyOwn
import Derived.Test.YtalbgklfhabnkaaGreatDoorJIrfftScale5
set_option linter.unusedVariables false
set_option linter.unusedSimpArgs false
set_option maxRecDepth 100000
set_option maxHeartbeats 16000000
namespace Go.Proofs.YtalbgklfhabnkaaGreatDoor
namespace W4
open Ieee Go Go.RowKit Go.Proofs Go.Proofs.YtalbgklfhabnkaaGreatDoor Ow Dt Gp W0 M0 M1 M3
theorem _root_.Go.Proofs.YtalbgklfhabnkaaGreatDoor.W0.Fk.fz {w : World} {b : Nat} {X : List Nat} (h : Fk w b X) : Fz w b X := by
 obtain ⟨cs, h1, h2, h3⟩ := h.out
 exact ⟨cs, h1, fun j hj => ⟨cs[j], List.getElem?_eq_getElem (by omega), h3 j _ (List.getElem?_eq_getElem (by omega))⟩⟩
theorem Gr2.fz {b c : Nat} {w w' : World} (h : Gr2 b c w w') {b' : Nat} {X : List Nat} (k : Fz w b' X) (n1 : b' ≠ b) (n2 : b' ≠ c) : Fz w' b' X := by
 obtain ⟨cs, h1, h2⟩ := k.out; exact ⟨cs, h.blk h1 n1 n2, h2⟩
end W4
namespace W5
open Ieee Go Go.RowKit Go.Proofs Go.Proofs.YtalbgklfhabnkaaGreatDoor Ow Dt Gp W0 S4 M0 M1 M3 W4
attribute [local go_sem ↓] Go.wp_at_zero Go.wp_at_succ
theorem fc_one {cs : List Value} {X : List Nat} (h : ∀ j u, cs[j]? = some u → Fc u (nthN X j)) : ∀ u ∈ cs, u.oneCell' = true := fun u hu => by
 obtain ⟨j, hj, rfl⟩ := List.getElem_of_mem hu
 obtain ⟨b, e, _⟩ := h j _ (List.getElem?_eq_getElem hj)
 rw [e]; rfl
theorem own_rowF {w : World} {B n : Nat} {v : Value} {cs : List Value} {X : List Nat} (h : Ow.OwnI w B 22 1 v n cs) (hn : X.length = n) (hc : ∀ j u, cs[j]? = some u → Fc u (nthN X j)) : RowF w B v X := by
 subst hn
 have hl := h.out.1
 rcases h.out.2 with ⟨rfl, h0⟩ | ⟨g, cap, cur, rfl, hg, hb, h1, h2, h3, h4⟩
 ·exact ⟨none, 0, by rw [h0], by omega, by decide, .inl h0⟩
 ·refine ⟨_, cap, rfl, h1, h2, .inr ⟨g, rfl, ⟨cur.toList, ⟨by simpa using hb⟩, fun j hj => ?_⟩, hg⟩⟩
  have hjl : j < cs.length := by omega
  refine ⟨cs[j], ?_, hc j _ (List.getElem?_eq_getElem hjl)⟩
  have : (cur.toList.take (X.length * 1))[j]? = some cs[j] := by rw [h4]; exact List.getElem?_eq_getElem hjl
  rw [List.getElem?_take] at this
  split at this
  ·exact this
  ·cases this
end W5
namespace Yh
open Ieee Go Go.RowKit Go.Proofs Go.Proofs.YtalbgklfhabnkaaGreatDoor Ow Dt Gp W0 S4 M0 M1 M3 W4 W5
section
variable {W0 w w' : World} {L : List Ent} {b b' k : Nat} {t : TypeId} {cs : List Value} {X Y : List Nat} {e e' : Ent} {v : Value}
theorem Hp.grW (h : Hp W0 w L) (i : Nat) (hi : L[i]? = some (.whole b X)) (g : Gr b w w') (k : Fk w' b Y) : Hp W0 w' (L.set i (.whole b Y)) :=
 h.turn i hi g.os g.tape g.output g.size (fun j hj hn => g.block j hj hn) (.whole b Y) rfl k
theorem Hp.gr2 {X' Y' : List Nat} (h : Hp W0 w L) (i j : Nat) (hi : L[i]? = some (.row b X)) (hj : L[j]? = some (.row b' Y)) (g : Gr2 b b' w w') (hij : i ≠ j) (k : Fz w' b X') (k' : Fz w' b' Y') : Hp W0 w' ((L.set i (.row b X')).set j (.row b' Y')) := by
  have hli := (List.getElem?_eq_some_iff.1 hi).1
  have hlj := (List.getElem?_eq_some_iff.1 hj).1
  have g1 : W0.heap.size ≤ b := h.geI i hi
  have g2 : W0.heap.size ≤ b' := h.geI j hj
  have mem : ∀ x, x ∈ (L.set i (.row b X')).set j (.row b' Y') → x = .row b X' ∨ x = .row b' Y' ∨ (x ∈ L ∧ x.b ≠ b ∧ x.b ≠ b') := by
    intro x hx
    obtain ⟨m, hm⟩ := List.mem_iff_getElem?.1 hx
    rw [List.getElem?_set] at hm
    split at hm
    · first
      | (split at hm
         · cases hm; exact .inr (.inl rfl)
         · cases hm)
      | (cases hm; exact .inr (.inl rfl))
    · rename_i q
      rw [List.getElem?_set] at hm
      split at hm
      · first
        | (split at hm
           · cases hm; exact .inl rfl
           · cases hm)
        | (cases hm; exact .inl rfl)
      · rename_i q2
        exact .inr (.inr ⟨List.mem_of_getElem? hm, Ne.symm (h.ne i m hi hm q2), Ne.symm (h.ne j m hj hm q)⟩)
  refine ⟨⟨h.bel.out.trans ⟨g.os, g.tape, g.output, g.size, fun m hm => g.block m (Nat.lt_of_lt_of_le hm h.bel.size) (by omega) (by omega)⟩⟩, ?_, ?_, ?_⟩
  · intro x hx
    rcases mem x hx with rfl | rfl | ⟨hx, _⟩
    · exact g1
    · exact g2
    · exact h.ge x hx
  · have : ((L.set i (.row b X')).set j (.row b' Y')).map Ent.b = L.map Ent.b := by
      rw [List.map_set, List.map_set]
      apply List.ext_getElem?
      intro m
      rw [List.getElem?_set]
      split
      · rename_i q; subst q
        rw [List.getElem?_map, hj]; simp [hlj, Ent.b]
      · rw [List.getElem?_set]
        split
        · rename_i q; subst q
          rw [List.getElem?_map, hi]; simp [hli, Ent.b]
        · rfl
    rw [this]; exact h.nd
  · intro x hx
    rcases mem x hx with rfl | rfl | ⟨hx, n1, n2⟩
    · exact k
    · exact k'
    · exact (h.ok x hx).same (g.block x.b (h.lt x hx) n1 n2)
end
end Yh
namespace Yi
open Go
variable {P : Program} {ops : Array Oper} {Q : Exit → Act → World → Prop} {md : Region.Mode} {S : World → Prop}
def NoDefer (ops : Array Oper) : Prop := ∀ o ∈ ops.toList, ∀ c, o.op ≠ .defer c
theorem rows_wide {n l : Nat} {row : String} {args : Array Value} {w : World} {R : Value → World → Prop} (h : Rows P row args w R) : RowsIn (Fence.wide.inRound l) n P row args w R :=
 fun c cs _ => let ⟨v, w', r, s⟩ := h c cs; ⟨v, w', r, stepsIn_wide.2 s⟩
theorem op_round {l n : Nat} {o : Oper} {a : Act} {w : World} {K : Act → World → Prop} (hd : ∀ c, o.op ≠ .defer c) (h : o.wp P a w K Q) : o.wpIn (Fence.wide.inRound l) n P a w K Q := by
 unfold Oper.wpIn
 refine ⟨fun f _ => trivial, ?_⟩
 rw [Oper.semAt_plain _ _ _ hd]
 unfold Oper.wp at h
 generalize (execOp a.eval o).run P w = r at h
 cases r with
 | ok x w' =>
  cases x with
  | enter f args => exact ⟨(fun h => by cases h), CallsIn.inRound l (callsIn_wide.2 h)⟩
  | row row args => exact ⟨(fun h => by cases h), rows_wide h⟩
  | value v => exact h
  | skip => exact h
  | defer d => exact h
  | _ => exact False.elim h
 | halt x w' =>
  cases x with
  | panic v => exact h
  | _ => exact False.elim h
theorem any_round {l n : Nat} (hd : NoDefer ops) (hL : ¬ LetsOut Q) : ∀ (fuel : Nat) (listed : Array Bool) (a : Act) (w : World), wpAny P md ops Q fuel listed a w → wpAnyIn (Fence.wide.inRound l) n P md ops Q fuel listed a w
 | 0, _, _, _, h => h
 | fuel + 1, listed, a, w, h => ⟨h.1, fun i hi => by
  have H := h.2 i hi
  have ih := any_round (l := l) (n := n) hd hL fuel (listed.setIfInBounds i true)
  unfold wpOp at H
  unfold wpOpIn
  cases ho : ops[i]? with
  | none => rw [ho] at H; exact ih _ _ H
  | some o =>
   rw [ho] at H
   have hm : o ∈ ops.toList := by
    have := Array.mem_of_getElem? ho
    exact Array.mem_def.1 this
   dsimp only at H ⊢
   split
   ·rename_i hw
    rw [if_pos hw] at H
    rcases H with H | ⟨_, H⟩
    ·exact Oper.wpIn_mono ih (op_round (hd o hm) H)
    ·exact (hL H).elim
   ·rename_i hw
    rw [if_neg hw] at H
    exact ⟨fun _ _ => trivial, ih _ _ H⟩⟩
theorem held_round {l n id : Nat} {a : Act} {w : World} (hm : P.follows .mixedOrders = true) (hd : NoDefer ops) (hL : ¬ LetsOut Q) (hS : S w.drew)
  (h : S w.drew → wpAnyH P .any ops Q S ops.size (Array.replicate ops.size false) a w.drew) : (Code.region id ops true).wpIn (Fence.wide.inRound l) n P Q a w :=
 wpIn_region_any hm (any_round hd hL _ _ _ _ (wpAny_of_held _ _ _ _ (h hS)))
theorem late_round (s : Nat) {l n id : Nat} {a : Act} {w : World} (hm : P.follows .mixedOrders = true) (hd : NoDefer ops) (hL : ¬ LetsOut Q) (hS : S w.drew)
  (h : S w.drew → I7.walkL P .any ops Q S s ops.size (Array.replicate ops.size false) a w.drew) : (Code.region id ops true).wpIn (Fence.wide.inRound l) n P Q a w :=
 wpIn_region_any hm (any_round hd hL _ _ _ _ (I7.wpAny_of_late _ _ _ _ (h hS (I7.shut_none _))))
section
variable {n : Nat}
theorem yi_op {i : Nat} {o : Oper} {v : Value} {a : Act} (hi : ops[i]? = some o) (hy : YieldsIf P ops S o v a)
  {K : Act → World → Prop} {w : World} (hS : S w) (h : K (a.put o.dst v) w) : wpOpIn Fence.wide n P ops Q i K a w := by
 unfold Go.wpOpIn
 simp only [hi]
 rcases hy with ⟨hw, hv⟩ | ⟨hw, rfl⟩
 ·simp only [hw, if_true, Oper.wpIn, show Fence.wide.round = none from rfl, Oper.semAt_none, hv w hS, Oper.uponIn]; exact ⟨fun _ _ => trivial, h⟩
 ·simp only [hw, Bool.false_eq_true, if_false]; exact ⟨fun _ _ => trivial, h⟩
theorem wpOpIn_putS {j : Nat} {oi oj : Oper} {v : Value} (hj : ops[j]? = some oj) (hap : oi.apart ops oj = true)
  (hsi : ∀ cs b, oi.op ≠ .select cs b) (hsj : ∀ cs b, oj.op ≠ .select cs b)
  (hQ : ∀ c a w, Q (.panic c) (a.put oi.dst v) w → Q (.panic c) a w) {K : Act → World → Prop} {a : Act} {w : World}
  (hy : YieldsIf P ops S oi v a) (h : wpOpIn Fence.wide n P ops Q j K (a.put oi.dst v) w) :
  wpOpIn Fence.wide n P ops Q j (fun a' w' => YieldsIf P ops S oi v a' ∧ K (a'.put oi.dst v) w') a w := by
 obtain ⟨h1, h2, h3⟩ := Oper.apart_spec hap
 have keep : ∀ (a : Act), YieldsIf P ops S oi v a → ∀ u, YieldsIf P ops S oi v (a.put oj.dst u) := fun a hy u =>
  hy.of_same (execOp_put oi hsi a oj.dst u h3) (wanted_put oi a oj.dst u h3)
 have keepD : ∀ d, YieldsIf P ops S oi v { a with defers := d :: a.defers } := fun d => hy.of_same rfl rfl
 unfold wpOpIn at *
 simp only [hj] at *
 rw [wanted_put oj a oi.dst v h1] at h
 split
 ·rename_i hw
  simp only [hw, if_true] at h
  unfold Oper.wpIn at *
  refine ⟨fun _ _ => trivial, ?_⟩
  have h := h.2
  rw [show Fence.wide.round = none from rfl, Oper.semAt_none, execOp_put oj hsj a oi.dst v h1] at h
  rw [show Fence.wide.round = none from rfl, Oper.semAt_none]
  generalize (execOp a.eval oj).run P w = r at *
  cases r with
  | ok x w' =>
   cases x <;> simp only [Oper.uponIn] at h ⊢
   case value u => exact ⟨keep a hy u, by rw [← Act.put_comm a v u h2]; exact h⟩
   case skip => exact ⟨keep a hy _, by rw [← Act.put_comm a v undef h2]; exact h⟩
   case defer d =>
    refine ⟨keep _ (keepD d) _, ?_⟩
    rw [← Act.put_comm _ v undef h2, ← Act.put_defers]
    exact h
   case enter f args =>
    refine ⟨h.1, CallsIn.mono h.2 fun e w'' he => ?_⟩
    cases e with
    | returned u => exact ⟨keep a hy u, by rw [← Act.put_comm a v u h2]; exact he⟩
    | panicked c => exact hQ _ _ _ he
    | outgrown => exact he
   case row row args => exact ⟨h.1, RowsIn.mono h.2 fun u w'' he => ⟨keep a hy u, by rw [← Act.put_comm a v u h2]; exact he⟩⟩
   case round l f tmps assign body =>
    refine ⟨h.1, RoundIn.mono h.2 fun e w'' he => ?_⟩
    cases e with
    | returned u => exact ⟨keep a hy u, by rw [← Act.put_comm a v u h2]; exact he⟩
    | panicked c => exact hQ _ _ _ he
    | outgrown => exact he
  | halt x w' =>
   cases x <;> simp only [Oper.uponIn] at h ⊢
   case panic u => exact hQ _ _ _ h
 ·rename_i hw
  simp only [hw] at h
  exact ⟨fun _ _ => trivial, keep a hy _, by rw [← Act.put_comm a v undef h2]; exact h.2⟩
def wpAnyW (n : Nat) (P : Program) (md : Region.Mode) (ops : Array Oper) (Q : Exit → Act → World → Prop) (S : World → Prop) : Nat → Array Bool → Act → World → Prop
 | 0, listed, a, w => Region.ready md ops listed = [] ∧ Q .normal a w
 | fuel + 1, listed, a, w =>
  (Region.ready md ops listed = [] → Q .normal a w) ∧
  ∀ i ∈ Region.ready md ops listed, wpOpIn Fence.wide n P ops Q i (fun a' w' => S w' ∧ wpAnyW n P md ops Q S fuel (listed.setIfInBounds i true) a' w') a w
theorem wpAny_of_W : ∀ (fuel : Nat) (listed : Array Bool) (a : Act) (w : World), wpAnyW n P md ops Q S fuel listed a w → wpAnyIn Fence.wide n P md ops Q fuel listed a w
 | 0, _, _, _, h => h
 | fuel + 1, _, _, _, h => ⟨h.1, fun i hi => wpOpIn_mono (fun a' w' h' => wpAny_of_W fuel _ a' w' h'.2) (h.2 i hi)⟩
theorem wpAnyW_first {i : Nat} {oi : Oper} {v : Value} (hi : ops[i]? = some oi) (hsel : ∀ (j : Nat) (o : Oper) cs b, ops[j]? = some o → o.op ≠ .select cs b)
  (hQ : ∀ c a w, Q (.panic c) (a.put oi.dst v) w → Q (.panic c) a w) :
  ∀ (fuel : Nat) (listed : Array Bool) (a : Act) (w : World),
   (∀ j oj, ops[j]? = some oj → j ≠ i → listed.getD j true = false → (∀ e ∈ oj.after, Region.binds md e = true → e.on ≠ i) → oi.apart ops oj = true) →
   i ∈ Region.ready md ops listed → YieldsIf P ops S oi v a → S w →
   wpAnyW n P md ops Q S fuel (listed.setIfInBounds i true) (a.put oi.dst v) w → wpAnyW n P md ops Q S (fuel + 1) listed a w := by
 intro fuel
 induction fuel with
 | zero =>
  intro listed a w _ hr hy hS H
  refine ⟨fun h => (by rw [h] at hr; cases hr), fun j hj => ?_⟩
  by_cases hji : j = i
  ·subst hji; exact yi_op hi hy hS ⟨hS, H⟩
  ·have := I7.rdy_mono hj (Ne.symm hji)
   rw [H.1] at this
   cases this
 | succ fuel ih =>
  intro listed a w hfree hr hy hS H
  refine ⟨fun h => (by rw [h] at hr; cases hr), fun j hj => ?_⟩
  by_cases hji : j = i
  ·subst hji; exact yi_op hi hy hS ⟨hS, H⟩
  ·have h1 := H.2 j (I7.rdy_mono hj (Ne.symm hji))
   obtain ⟨hjun, oj, hoj, hall⟩ := mem_ready.1 hj
   have hnot : ∀ e ∈ oj.after, Region.binds md e = true → e.on ≠ i := fun e he hb heq => by
    have h1 := hall e he hb
    have h0 := (mem_ready.1 hr).1
    rw [heq] at h1
    rcases Nat.lt_or_ge i listed.size with h' | h'
    ·simp [h'] at h0 h1; rw [h0] at h1; cases h1
    ·simp [Array.getElem?_eq_none h'] at h1
   have h2 := wpOpIn_putS hoj (hfree j oj hoj hji hjun hnot) (fun cs b => hsel i oi cs b hi) (fun cs b => hsel j oj cs b hoj) hQ hy h1
   have hfree' : ∀ k ok, ops[k]? = some ok → k ≠ i → (listed.setIfInBounds j true).getD k true = false →
     (∀ e ∈ ok.after, Region.binds md e = true → e.on ≠ i) → oi.apart ops ok = true := fun k ok hk hki hun hno => by
    refine hfree k ok hk hki ?_ hno
    by_cases hjk : j = k
    ·subst hjk; exact hjun
    ·rw [I7.getD_ne hjk] at hun; exact hun
   refine wpOpIn_mono (fun a' w' h3 => ⟨h3.2.1, ih (listed.setIfInBounds j true) a' w' hfree' (I7.rdy_mono hr hji) h3.1 h3.2.1 ?_⟩) h2
   rw [Array.setIfInBounds_comm _ _ hji]
   exact h3.2.2
theorem wt {i : Nat} {oi : Oper} {rest : List Oper} {v : Value} {fuel : Nat} {listed : Array Bool} {a : Act} {w : World} (hS : S w)
  (h : wpAnyW n P md ops Q S fuel (listed.setIfInBounds i true) (a.put oi.dst v) w)
  (hi : ops.toList.drop i = oi :: rest := by rfl) (hs : Region.noSelect ops = true := by kernel_rfl) (hf : Region.free md ops listed i = true := by kernel_rfl) (hr : (Region.ready md ops listed).contains i = true := by kernel_rfl)
  (hQ : ∀ c a w, Q (.panic c) (a.put oi.dst v) w → Q (.panic c) a w := by exact fun _ _ _ h => h) (hw : Region.wanted oi (yielded ops a.tmps) = true := by kernel_rfl)
  (hv : ∀ w, S w → (execOp a.eval oi).run P w = .ok (.value v) w := by (intro w hSw; go_simp; try (with_reducible rfl))) : wpAnyW n P md ops Q S (fuel + 1) listed a w :=
 wpAnyW_first (I0.ops_at hi) (Region.noSelect_spec hs) hQ fuel listed a w (Region.free_spec (I0.ops_at hi) hf) (by simpa using hr) (.inl ⟨hw, hv⟩) hS h
theorem wl {i : Nat} {oi : Oper} {rest : List Oper} {v : Value} {fuel : Nat} {listed : Array Bool} {a : Act} {w : World} (hS : S w)
  (hv : ∀ w, S w → (execOp a.eval oi).run P w = .ok (.value v) w)
  (h : wpAnyW n P md ops Q S fuel (listed.setIfInBounds i true) (a.put oi.dst v) w)
  (hi : ops.toList.drop i = oi :: rest := by rfl) (hs : Region.noSelect ops = true := by kernel_rfl) (hf : Region.free md ops listed i = true := by kernel_rfl) (hr : (Region.ready md ops listed).contains i = true := by kernel_rfl)
  (hQ : ∀ c a w, Q (.panic c) (a.put oi.dst v) w → Q (.panic c) a w := by exact fun _ _ _ h => h) (hw : Region.wanted oi (yielded ops a.tmps) = true := by kernel_rfl) : wpAnyW n P md ops Q S (fuel + 1) listed a w :=
 wt hS h hi hs hf hr hQ hw hv
theorem wc {i : Nat} {o : Oper} {rest : List Oper} {fuel : Nat} {listed : Array Bool} {a : Act} {w : World}
  (h : ∀ K' : Act → World → Prop, Shut (∀ a w, S w → (S w → wpAnyW n P md ops Q S fuel (listed.setIfInBounds i true) a w) → K' a w) → o.wpIn Fence.wide n P a w K' Q)
  (hr : Region.ready md ops listed = [i] := by kernel_rfl) (hi : ops.toList.drop i = o :: rest := by rfl)
  (hw : Region.wanted o (yielded ops a.tmps) = true := by kernel_rfl) : wpAnyW n P md ops Q S (fuel + 1) listed a w :=
 ⟨fun h0 => (by rw [hr] at h0; cases h0), fun j hj => by
  rw [hr] at hj
  have hji : j = i := by simpa using hj
  subst hji
  unfold wpOpIn
  rw [I0.ops_at hi]
  dsimp only
  rw [if_pos hw]
  exact h _ (fun a w hS hW => ⟨hS, hW hS⟩)⟩
theorem wdone {listed : Array Bool} {a : Act} {w : World} (hr : Region.ready md ops listed = []) (h : Q .normal a w) : ∀ fuel, wpAnyW n P md ops Q S fuel listed a w
 | 0 => ⟨hr, h⟩
 | _ + 1 => ⟨fun _ => h, by rw [hr]; simp⟩
theorem held_wide {id : Nat} {a : Act} {w : World} (hm : P.follows .mixedOrders = true) (hS : S w.drew)
  (h : S w.drew → wpAnyW n P .any ops Q S ops.size (Array.replicate ops.size false) a w.drew) : (Code.region id ops true).wpIn Fence.wide n P Q a w :=
 wpIn_region_any hm (wpAny_of_W _ _ _ _ (h hS))
end
end Yi
namespace P8
open Ieee Go Go.RowKit Go.Proofs Go.Proofs.YtalbgklfhabnkaaGreatDoor Ow Pl Dp Dt Gp F1 I0 U0 W0 S4 S6 P0 P1 P2 M0 M1 M2 M3 P3 P4 P5 P6 P7 W4
attribute [local go_sem ↓] Go.wp_at_zero Go.wp_at_succ
theorem tab_ne {w : World} {b : Nat} {X : List Nat} (T : Tab w) (h : Fz w b X) (hl : 0 < X.length) : 1 ≠ b := by
 rintro rfl
 have h1 := T.cell 0 (by decide)
 obtain ⟨r, h2, _⟩ := h.at_ hl
 rw [h1] at h2; cases h2
theorem logI_pow {p : Nat} (hp : p ≤ 10) : logI (2 ^ p) = p := by
 have : ∀ p : Fin 11, logI (2 ^ p.val) = (p.val : Int) := by decide
 exact this ⟨p, by omega⟩
def qOf (v : Value) (w : World) : Nat := match v with
 | .pointer (some a) => match w.cell? a with
  | some (.int _ n) => n.toNat
  | _ => 0
 | _ => 0
theorem qOf_blk {w : World} {b : Nat} {t : TypeId} {n : Int} (h : Blk w b t [.int .i64 n]) : qOf (.pointer (some ⟨b, 0, none⟩)) w = n.toNat := by
 unfold qOf; simp only [h.cell (i := 0) rfl]
def stageS (p : Nat) (tab : Nat → Nat × Nat) (st : List Nat × List Nat) (k : Nat) : List Nat × List Nat := loopN (fun q st => stageG opsN (2 ^ q) (2 ^ (p - (q + 1))) (fun k => tab (k * 2 ^ (p - (q + 1)))) st) k st
theorem stageS_len {p : Nat} (tab : Nat → Nat × Nat) {st : List Nat × List Nat} (h1 : st.1.length = 2 ^ p) (h2 : st.2.length = 2 ^ p) {k : Nat} (hk : k ≤ p) : (stageS p tab st k).1.length = 2 ^ p ∧ (stageS p tab st k).2.length = 2 ^ p :=
 stages_len opsN (fun q k => tab (k * 2 ^ (p - (q + 1)))) h1 h2 hk
theorem stageS_succ (p : Nat) (tab : Nat → Nat × Nat) (st : List Nat × List Nat) (k : Nat) : stageS p tab st (k + 1) = stageG opsN (2 ^ k) (2 ^ (p - (k + 1))) (fun j => tab (j * 2 ^ (p - (k + 1)))) (stageS p tab st k) := rfl
theorem _root_.Go.Proofs.YtalbgklfhabnkaaGreatDoor.W4.Gr2.fk {b c : Nat} {w w' : World} (h : Gr2 b c w w') {b' : Nat} {X : List Nat} (k : Fk w b' X) (n1 : b' ≠ b) (n2 : b' ≠ c) : Fk w' b' X := by
 obtain ⟨cs, h1, h2⟩ := k.out; exact ⟨cs, h.blk h1 n1 n2, h2⟩
theorem nth_range {m k : Nat} (f : Nat → Nat) (h : k < m) : nthN ((List.range m).map f) k = f k := nthG_map opsN f h
def mergesS (half : Nat) (tw : Nat → Nat × Nat) (st : List Nat × List Nat) (j : Nat) : List Nat × List Nat := loopN (fun i st => mergeG opsN (i * (2 * half)) half tw st) j st
theorem mergesS_len {half : Nat} {tw : Nat → Nat × Nat} {st : List Nat × List Nat} (j : Nat) : (mergesS half tw st j).1.length = st.1.length ∧ (mergesS half tw st j).2.length = st.2.length := by
 refine loopN_inv (I := fun _ (s : List Nat × List Nat) => s.1.length = st.1.length ∧ s.2.length = st.2.length) j ⟨rfl, rfl⟩ ?_
 intro k s _ h
 have := mergeS_len (k * (2 * half)) half tw s half
 exact ⟨this.1.trans h.1, this.2.trans h.2⟩
theorem mergesS_succ (half : Nat) (tw : Nat → Nat × Nat) (st : List Nat × List Nat) (j : Nat) : mergesS half tw st (j + 1) = mergeG opsN (j * (2 * half)) half tw (mergesS half tw st j) := rfl
theorem swapG_len (od X : List Nat) : (swapG opsN od X).length = X.length := swapK_len od X od.length
theorem dInto {p N c c' b b' : Nat} {X Y : List Nat} (W0 : World) (T : Tab W0) (KX : Fz W0 b X) (KY : Fz W0 b' Y) (hb : b ≠ b') (hN : N = 2 ^ p) (hX : X.length = N) (hY : Y.length = N) (hp7 : p ≤ 7) (hc : N ≤ c) (hc' : N ≤ c') (hC : c ≤ 9223372036854775807) (hC' : c' ≤ 9223372036854775807) :
  Calls Tryz.prog 80 #[.agg #[.slice (some ⟨b, 0, none⟩) N c, .slice (some ⟨b', 0, none⟩) N c']] W0
   fun e w' => e = .returned (.int .i64 0) ∧ Fz w' b (intoG opsN (bitsG p) p (tabW p) (X, Y)).1 ∧ Fz w' b' (intoG opsN (bitsG p) p (tabW p) (X, Y)).2 ∧ Gr2 b b' W0 w' := by
 have hpos : 0 < N := by rw [hN]; exact Nat.two_pow_pos p
 have h128 : N ≤ 128 := by rw [hN]; exact Nat.le_trans (Nat.pow_le_pow_right (by decide) hp7) (by decide)
 have b2 := tab_ne T KX (by omega)
 have b2' := tab_ne T KY (by omega)
 have lp : logI N = p := by rw [hN]; exact logI_pow (by omega)
 have RI : Ho (∀ w, Bel W0 w → Calls Tryz.prog 108 #[.agg #[.slice (some ⟨b, 0, none⟩) N c, .slice (some ⟨b', 0, none⟩) N c']] w (fun e w' => e = .returned (.bool true) ∧ Bel w w')) := ⟨fun w g => by
  have h := dRightV (n := N) (m := N) (c := c) (c' := c') (A := some ⟨b, 0, none⟩) (B := some ⟨b', 0, none⟩) w (T.bel g) (by omega) (by omega)
  rw [lp, show decide (N = N ∧ (0 : Int) ≤ (p : Int)) = true from by simp] at h; exact h⟩
 have LG : Ho (∀ w, Bel W0 w → Calls Tryz.prog 109 #[.int .i64 (N : Int)] w fun e w' => e = .returned (.int .i64 (p : Int)) ∧ w = w') := ⟨fun w g => by
  have h := dLog (n := N) (fn := 109) rfl w (by omega) (T.bel g)
  rw [lp] at h; exact h⟩
 have BI : Ho (∀ w, Calls Tryz.prog 110 #[.int .i64 (p : Int)] w fun e w' => ∃ b, e = .returned (.slice (some ⟨b, 0, none⟩) N N) ∧ Blk w' b 3 (insN (bitsG p)) ∧ w.heap.size ≤ b ∧ Bel w w') := ⟨fun w => by
  have h := dBits (p := p) w rfl hp7
  rw [← hN] at h; exact h⟩
 have TT := Ho.mk T
 have K1 := Ho.mk KX
 have K2 := Ho.mk KY
 have HX := Ho.mk hX
 have HY := Ho.mk hY
 have lb := KX.lt
 have lb' := KY.lt
 have IV := Ho.mk (inv_bits hp7)
 have KV := Ho.mk (Blk.new W0 [.slice (some ⟨b, 0, none⟩) N c, .slice (some ⟨b', 0, none⟩) N c'] 46)
 have g0 := Ho.mk ((Bel.refl W0).alloc (.cells #[.slice (some ⟨b, 0, none⟩) N c, .slice (some ⟨b', 0, none⟩) N c'] 46))
 have HN := Ho.mk hN
 rw [← hN] at IV
 clear KX KY T hX hY lp hN
 go_enter Tryz.func80, Tryz.ntmps80
 go_upto_region 1 with fail
 have hs := Ho.mk (show (W0.alloc (.cells #[.slice (some ⟨b, 0, none⟩) N c, .slice (some ⟨b', 0, none⟩) N c'] 46)).heap.size = W0.heap.size + 1 from World.size_alloc _ _)
 generalize W0.alloc (.cells #[.slice (some ⟨b, 0, none⟩) N c, .slice (some ⟨b', 0, none⟩) N c'] 46) = W at *
 obtain ⟨y0, y1⟩ := KV.out.c2
 go_wp2_with fail
 (with_reducible refine (RI.out _ g0.out).mono ?_); rintro e w1 ⟨rfl, b1⟩
 have KV := Ho.mk (KV.out.bel b1)
 have g1 := Ho.mk (g0.out.trans b1)
 have l1 : W0.heap.size < w1.heap.size := by have := b1.size; have := hs.out; omega
 clear y0 y1 b1 hs g0 RI
 obtain ⟨y0, y1⟩ := KV.out.c2
 go_wp2_with fail
 (with_reducible refine (LG.out _ g1.out).mono ?_); rintro e w1 ⟨rfl, rfl⟩
 go_upto_region 4 with fail
 have KP := Ho.mk (Blk.new w1 [.int .i64 (p : Int)] 3)
 have KV := Ho.mk (KV.out.old (.cells #[.int .i64 (p : Int)] 3))
 have g2 := Ho.mk (g1.out.alloc (.cells #[.int .i64 (p : Int)] 3))
 have l2 : w1.heap.size < (w1.alloc (.cells #[.int .i64 (p : Int)] 3)).heap.size := by rw [World.size_alloc]; exact Nat.lt_succ_self _
 clear y0 y1 g1 LG
 obtain ⟨bp, hbp⟩ : ∃ bp, bp = w1.heap.size := ⟨_, rfl⟩
 rw [← hbp] at KP l2 l1 ⊢
 clear hbp
 generalize w1.alloc (.cells #[.int .i64 (p : Int)] 3) = W2 at *
 have y2 := KP.out.cell (i := 0) rfl
 go_wp2_with fail
 (with_reducible refine (BI.out _).mono ?_); rintro e w3 ⟨bo, rfl, KO, l3, b3⟩
 have KV := Ho.mk (KV.out.bel b3)
 have KP := Ho.mk (KP.out.bel b3)
 have g3 := Ho.mk (g2.out.trans b3)
 have l4 : bp < bo := Nat.lt_of_lt_of_le l2 l3
 have KO := Ho.mk KO
 clear y2 b3 l3 l2 g2 BI
 have y0 := KV.out.cell (i := 0) rfl
 have SW1 := Ho.mk (dSwap (c := c) (co := N) (N := N) w3 (K1.out.bel g3.out) KO.out HX.out IV.out.len IV.out.lt (by omega) (by omega))
 go_wp2_with fail
 (with_reducible refine SW1.out.mono ?_); rintro e w4 ⟨rfl, f4, G4⟩
 have KV := Ho.mk (G4.blk KV.out (by omega))
 have KP := Ho.mk (G4.blk KP.out (by omega))
 have KO := Ho.mk (G4.blk KO.out (by omega))
 have F2 := Ho.mk (gr_fz G4 (K2.out.bel g3.out) (Ne.symm hb))
 have F1 := Ho.mk f4
 have G4 := Ho.mk ((gr2_bel g3.out b b').trans (Gr2.of1 G4))
 clear y0 f4 g3 SW1
 have y1 := KV.out.cell (i := 1) rfl
 have SW2 := Ho.mk (dSwap (c := c') (co := N) (N := N) w4 F2.out KO.out HY.out IV.out.len IV.out.lt (by omega) (by omega))
 go_wp2_with fail
 (with_reducible refine SW2.out.mono ?_); rintro e w5 ⟨rfl, f5, G5⟩
 have KV := Ho.mk (G5.blk KV.out (by omega))
 have KP := Ho.mk (G5.blk KP.out (by omega))
 have F1 := Ho.mk (gr_fz G5 F1.out hb)
 have F2 := Ho.mk f5
 have G5 := Ho.mk (G4.out.trans (Gr2.of2 G5))
 clear y1 f5 G4 SW2 KO
 go_upto_region 7 with fail
 have y2 := KP.out.cell (i := 0) rfl
 have hmi : IntKind.i64.wrap ((IntKind.i64.wrap (2 ^ p)).tdiv 2) = ((N / 2 : Nat) : Int) := by
  have e : ((2 : Int) ^ p) = ((N : Nat) : Int) := by rw [HN.out]; push_cast; rfl
  rw [e, show IntKind.i64.wrap (N : Int) = (N : Int) from by rw [IntKind.wrap_i64]; omega, Int.tdiv_eq_ediv_of_nonneg (by omega), IntKind.wrap_i64]; omega
 have l5 := G5.out.size
 have TB := Ho.mk (fun w (g : Bel w5 w) => dTable (q := p) (m := N / 2) w ((G5.out.tab TT.out b2 b2').bel g) rfl (by omega) hmi (by omega))
 clear hmi
 go_cut [5] from 26 to 30 (fun s5 wy => ∃ (bW bC bS : Nat), s5 = .pointer (some ⟨bW, 0, none⟩) ∧ Ho (Blk wy bW 46 [.slice (some ⟨bC, 0, none⟩) (N / 2) (N / 2), .slice (some ⟨bS, 0, none⟩) (N / 2) (N / 2)]) ∧ Ho (Fk wy bC ((List.range (N / 2)).map fun k => (tabW p k).1)) ∧ Ho (Fk wy bS ((List.range (N / 2)).map fun k => (tabW p k).2)) ∧ Ho (Bel w5 wy) ∧ Ho (W0.heap.size ≤ bW) ∧ Ho (W0.heap.size ≤ bC) ∧ Ho (W0.heap.size ≤ bS))
 case first =>
  refine wp_region_held_drew (S := fun w' => Bel w5 w') (by kernel_rfl) (Bel.refl _).drew (fun hHeld => ?_)
  (try dsimp only at hHeld)
  generalize w5.drew = wx at *
  have n0 := trivial
  repeat' (first
   |
    clear t4
    go_simp
    go_at_call 38
    (with_reducible refine (TB.out _ hHeld).mono ?_); rintro e wx ⟨bC, bS, rfl, fC, fS, lC, lS, bwx⟩
    have FC := Ho.mk fC
    have FS := Ho.mk fS
    have lt_bC := fC.lt
    have lt_bS := fS.lt
    have lwC := hHeld.size
    clear fC fS
    try go_wp2_with fail
    refine hK.out _ _ (Bel.trans hHeld bwx) (fun hHeld => ?_)
    clear hK K
    try have KW := Ho.mk (KW.out.bel bwx)
    try have lt_bW := Nat.lt_of_lt_of_le lt_bW bwx.size
    clear bwx
    try simp only [Act.put, Ow.zS, Ow.zC, Ow.zD]
   |
    clear t5
    go_simp
    have le_bW := hHeld.size
    refine hK.out _ _ (Bel.alloc hHeld _) (fun hHeld => ?_)
    clear hK K
    have KW := Ho.mk (Blk.new wx [.slice none 0 0, .slice none 0 0] 46)
    have ga := (Bel.refl wx).alloc (.cells #[.slice none 0 0, .slice none 0 0] 46)
    try have FC := Ho.mk (FC.out.bel ga)
    try have FS := Ho.mk (FS.out.bel ga)
    try have lt_bC := Nat.lt_of_lt_of_le lt_bC ga.size
    try have lt_bS := Nat.lt_of_lt_of_le lt_bS ga.size
    clear ga
    have lt_bW : wx.heap.size < (World.alloc wx (.cells #[.slice none 0 0, .slice none 0 0] 46)).heap.size := by rw [World.size_alloc]; exact Nat.lt_succ_self _
    try have ne_bC_bW : bC ≠ wx.heap.size := by omega
    try have ne_bS_bW : bS ≠ wx.heap.size := by omega
    generalize wx.heap.size = bW at *
    generalize World.alloc wx (.cells #[.slice none 0 0, .slice none 0 0] 46) = wx at *
    try simp only [Act.put, Ow.zS, Ow.zC, Ow.zD]
   |
    clear t6
    go_simp
    have FC := Ho.mk ((FC.out.far (p := ⟨bW, 0, none⟩) (by dsimp only; omega) (.slice (some ⟨bC, 0, none⟩) (N / 2) (N / 2))).far (p := ⟨bW, 1, none⟩) (by dsimp only; omega) (.slice (some ⟨bS, 0, none⟩) (N / 2) (N / 2)))
    have FS := Ho.mk ((FS.out.far (p := ⟨bW, 0, none⟩) (by dsimp only; omega) (.slice (some ⟨bC, 0, none⟩) (N / 2) (N / 2))).far (p := ⟨bW, 1, none⟩) (by dsimp only; omega) (.slice (some ⟨bS, 0, none⟩) (N / 2) (N / 2)))
    have KW := Ho.mk ((KW.out.set 0 (.slice (some ⟨bC, 0, none⟩) (N / 2) (N / 2))).set 1 (.slice (some ⟨bS, 0, none⟩) (N / 2) (N / 2)))
    simp only [List.set_cons_zero, List.set_cons_succ] at KW
    refine hK.out _ _ ⟨((hHeld.out.setCell (p := ⟨bW, 0, none⟩) (by dsimp only; omega) (.slice (some ⟨bC, 0, none⟩) (N / 2) (N / 2))).setCell (p := ⟨bW, 1, none⟩) (by dsimp only; omega) (.slice (some ⟨bS, 0, none⟩) (N / 2) (N / 2)))⟩ (fun hHeld => ?_)
    clear hK K y0 x0 y1 x1
    have lt_bC : bC < (World.setCell (World.setCell wx ⟨bW, 0, none⟩ (.slice (some ⟨bC, 0, none⟩) (N / 2) (N / 2))) ⟨bW, 1, none⟩ (.slice (some ⟨bS, 0, none⟩) (N / 2) (N / 2))).heap.size := by simpa [World.setCell] using lt_bC
    have lt_bS : bS < (World.setCell (World.setCell wx ⟨bW, 0, none⟩ (.slice (some ⟨bC, 0, none⟩) (N / 2) (N / 2))) ⟨bW, 1, none⟩ (.slice (some ⟨bS, 0, none⟩) (N / 2) (N / 2))).heap.size := by simpa [World.setCell] using lt_bS
    have lt_bW : bW < (World.setCell (World.setCell wx ⟨bW, 0, none⟩ (.slice (some ⟨bC, 0, none⟩) (N / 2) (N / 2))) ⟨bW, 1, none⟩ (.slice (some ⟨bS, 0, none⟩) (N / 2) (N / 2))).heap.size := by simpa [World.setCell] using lt_bW
    generalize World.setCell (World.setCell wx ⟨bW, 0, none⟩ (.slice (some ⟨bC, 0, none⟩) (N / 2) (N / 2))) ⟨bW, 1, none⟩ (.slice (some ⟨bS, 0, none⟩) (N / 2) (N / 2)) = wx at *
    try simp only [Act.put, Ow.zS, Ow.zC, Ow.zD]
   |
    clear n4
    refine wpAnyH_done (by kernel_rfl) ?_ _
   |
    clear n3
    obtain ⟨y0, y1⟩ := KW.out.c2
    have x0 := KW.out.free 0
    have x1 := KW.out.free 1
    refine rc (i := 6) (fun K hK => have t6 := trivial; have n4 := trivial; ?_)
   |
    clear n1
    refine rc (i := 5) (fun K hK => have t5 := trivial; have n3 := trivial; ?_)
   |
    clear n2
    refine rc (i := 4) (fun K hK => have t4 := trivial; have n3 := trivial; ?_)
   |
    clear n0
    refine rl (i := 0) (v := ?_) hHeld (fun w hSw => ?_) ?_
    rotate_left
    ·(have z0 := hSw.cell y2; go_simp; try (with_reducible rfl))
    refine rl (i := 1) (v := ?_) hHeld (fun w hSw => ?_) ?_
    rotate_left
    ·(have z0 := hSw.cell y2; go_simp; try (with_reducible rfl))
    refine rt (i := 2) hHeld ?_
    refine rt (i := 3) hHeld ?_
    try simp only [Act.put, Ow.zS, Ow.zC, Ow.zD]
    refine I6.rc2 (i := 4) (j := 5) (fun K hK => have t4 := trivial; have n1 := trivial; ?_) (fun K hK => have t5 := trivial; have n2 := trivial; ?_))
  all_goals
   go_wp2_with fail
   go_meet
   exact ⟨bW, bC, bS, rfl, KW, FC, FS, ⟨hHeld⟩, ⟨by omega⟩, ⟨by omega⟩, ⟨by omega⟩⟩
 case rest =>
  obtain ⟨bW, bC, bS, rfl, KW, FC, FS, HB, LW, LC, LS⟩ := hcut
  have KV := Ho.mk (KV.out.bel HB.out)
  have KP := Ho.mk (KP.out.bel HB.out)
  have F1 := Ho.mk (F1.out.bel HB.out)
  have F2 := Ho.mk (F2.out.bel HB.out)
  have G6 := Ho.mk (G5.out.tb HB.out)
  clear y2 TB HB G5
  obtain ⟨wo, rfl⟩ : ∃ wo : World, wo = wc := ⟨_, rfl⟩
  have FCl := FC.out.lt
  have FSl := FS.out.lt
  have KWl := KW.out.lt
  have KPl := KP.out.lt
  have KVl := KV.out.lt
  have lwo := G6.out.size
  have LL := Ho.mk (And.intro LW.out (And.intro LC.out (And.intro LS.out (And.intro FCl (And.intro FSl (And.intro KWl (And.intro KPl (And.intro KVl lwo))))))))
  have LB := Ho.mk (And.intro l1 (And.intro lb lb'))
  clear LW LC LS FCl FSl KWl KPl KVl lwo l1 lb lb' l4 l5
  go_wp2_with fail
  go_loopw [6] (fun v wr => ∃ (q bq : Nat) (z : Int), q ≤ p ∧ v = .pointer (some ⟨bq, 0, none⟩) ∧ Ho (z = q + 1) ∧ Ho (wo.heap.size ≤ bq) ∧ Ho (Blk wr bq 3 [.int .i64 z]) ∧ Ho (Fz wr b (stageS p (tabW p) (swapG opsN (bitsG p) X, swapG opsN (bitsG p) Y) q).1) ∧ Ho (Fz wr b' (stageS p (tabW p) (swapG opsN (bitsG p) X, swapG opsN (bitsG p) Y) q).2) ∧ Ho (Gr2 b b' wo wr)) (fun v w => p + 2 - qOf v w)
  case atStart =>
   have a1 := (Bel.refl wo).alloc (.cells #[.int .i64 1] 3)
   exact ⟨0, wo.heap.size, 1, Nat.zero_le _, rfl, ⟨by simp⟩, ⟨Nat.le_refl _⟩, ⟨Blk.new wo [.int .i64 1] 3⟩, ⟨F1.out.bel a1⟩, ⟨F2.out.bel a1⟩, ⟨gr2_bel a1 b b'⟩⟩
  case round =>
   obtain ⟨wq, rfl⟩ : ∃ wq : World, wq = wr := ⟨_, rfl⟩
   obtain ⟨q, bq, z, hq, rfl, HZ, HQ, KQ, FX, FY, HG⟩ := hrel
   have KP1 := Ho.mk (HG.out.blk KP.out (by have := LB.out; omega) (by have := LB.out; omega))
   have y2 := KP1.out.cell (i := 0) rfl
   have y3 := KQ.out.cell (i := 0) rfl
   rcases Nat.lt_or_ge q p with hlt | hge
   ·have hzp : z ≤ (p : Int) := by have := HZ.out; omega
    have hz1 : 1 ≤ z := by have := HZ.out; omega
    have KV1 := Ho.mk (HG.out.blk KV.out (by have := LB.out; omega) (by have := LB.out; omega))
    obtain ⟨st, hst⟩ : ∃ st, st = stageS p (tabW p) (swapG opsN (bitsG p) X, swapG opsN (bitsG p) Y) q := ⟨_, rfl⟩
    have HST := Ho.mk hst
    rw [← hst] at FX FY
    have hl := stageS_len (p := p) (tabW p) (st := (swapG opsN (bitsG p) X, swapG opsN (bitsG p) Y)) (by rw [swapG_len, HX.out, HN.out]) (by rw [swapG_len, HY.out, HN.out]) (k := q) (by omega)
    rw [← hst, ← HN.out] at hl
    have HSL := Ho.mk hl
    clear hst hl
    obtain ⟨half, hhalf⟩ : ∃ half, half = 2 ^ q := ⟨_, rfl⟩
    obtain ⟨many, hmany⟩ : ∃ many, many = 2 ^ (p - (q + 1)) := ⟨_, rfl⟩
    have hmN : many * (2 * half) = N := by rw [hmany, hhalf, HN.out]; exact pow_split hlt
    have hh0 : 0 < half := by rw [hhalf]; exact Nat.two_pow_pos q
    have HH := Ho.mk (And.intro hhalf hmany)
    have HMN := Ho.mk hmN
    clear hhalf hmany hmN
    have h2z : (2 : Int) ^ z.toNat = ((2 * half : Nat) : Int) := by
     rw [HH.out.1, show z.toNat = q + 1 by have := HZ.out; omega, Int.pow_succ]; push_cast; omega
    have hhN : 2 * half ≤ N := by
     have h1 : 0 < many := by rw [HH.out.2]; exact Nat.two_pow_pos _
     have := HMN.out
     have h2 : 1 * (2 * half) ≤ many * (2 * half) := Nat.mul_le_mul_right _ h1
     omega
    obtain ⟨H2, hH2⟩ : ∃ H2 : Nat, H2 = 2 * half := ⟨_, rfl⟩
    rw [← hH2] at h2z
    have HH2 := Ho.mk hH2
    clear hH2
    have hw1 : IntKind.i64.wrap ((2 : Int) ^ z.toNat) = (H2 : Int) := by rw [h2z, IntKind.wrap_i64]; have := HH2.out; omega
    have hw2 : wrap64 ((2 : Int) ^ z.toNat) = (H2 : Int) := by rw [h2z]; unfold wrap64; have := HH2.out; omega
    clear h2z
    go_wp2_with fail
    go_loopw [8] (fun v wr => ∃ (j F : Nat), j ≤ many ∧ v = .int .i64 (F : Int) ∧ Ho (F = j * (2 * half)) ∧ Ho (Fz wr b (mergesS half (fun k => tabW p (k * 2 ^ (p - (q + 1)))) st j).1) ∧ Ho (Fz wr b' (mergesS half (fun k => tabW p (k * 2 ^ (p - (q + 1)))) st j).2) ∧ Ho (Gr2 b b' wq wr)) (fun v _ => N - (intOf v).toNat)
    case atStart => exact ⟨0, 0, Nat.zero_le _, rfl, ⟨by simp⟩, FX, FY, ⟨Gr2.refl _ _ _⟩⟩
    case round =>
     obtain ⟨j, F, hj, rfl, HF, GX, GY, H1⟩ := hrel
     have lB := LB.out
     have lq := HQ.out
     have lLL := LL.out
     have KV2 := Ho.mk (H1.out.blk KV1.out (by omega) (by omega))
     have KQ2 := Ho.mk (H1.out.blk KQ.out (by omega) (by omega))
     have KP2 := Ho.mk (H1.out.blk KP1.out (by omega) (by omega))
     obtain ⟨v0, v1⟩ := KV2.out.c2
     have q0 := KQ2.out.cell (i := 0) rfl
     have ML := Ho.mk (mergesS_len (half := half) (tw := fun k => tabW p (k * 2 ^ (p - (q + 1)))) (st := st) j)
     rcases Nat.lt_or_ge j many with jlt | jge
     ·have hFN : F + H2 ≤ N := by
       have h1 : (j + 1) * (2 * half) ≤ many * (2 * half) := Nat.mul_le_mul_right _ jlt
       have := HMN.out
       have := HF.out
       have := HH2.out
       rw [Nat.succ_mul] at h1; omega
      have hH20 : 0 < H2 := by have := HH2.out; omega
      obtain ⟨E, hE⟩ : ∃ E : Nat, E = F + H2 := ⟨_, rfl⟩
      have hEN : E ≤ N := by omega
      have hFE : F < E := by omega
      have hwE : IntKind.i64.wrap ((F : Int) + (H2 : Int)) = (E : Int) := by rw [hE, IntKind.wrap_i64]; omega
      have HE := Ho.mk hE
      have PT := Ho.mk (fun w => dPart (b := b) (b' := b') (o := 0) (n := N) (m := N) (f := F) (t := E) (c := c) (c' := c') w hFE (by omega) (by omega) hc hc' hC hC')
      have MG := Ho.mk (fun w (g : Bel wr w) => dMerge (half := half) (f := F) (c := c - F) (c' := c' - F) (b := b) (b' := b') (bw := bW) (bp := bp) (bq := bq) (N := N) (tw := fun k => tabW p (k * 2 ^ (p - (q + 1)))) w (GX.out.bel g) (GY.out.bel g) hb (by rw [ML.out.1]; exact HSL.out.1) (by rw [ML.out.2]; exact HSL.out.2)
       (by have := HH2.out; omega) hh0 (by omega) (by have := HH2.out; omega) (by have := HH2.out; omega) (by omega) (by omega)
       (fun k k0 kh w' gw => by
        have gg : Gr2 b b' wq w' := (H1.out.tb g).trans gw
        have gh : Gr2 b b' wo w' := HG.out.trans gg
        have hi : k * 2 ^ (p - (q + 1)) < N / 2 := by
         have h1 : k * 2 ^ (p - (q + 1)) < half * 2 ^ (p - (q + 1)) := Nat.mul_lt_mul_of_pos_right kh (Nat.two_pow_pos _)
         have h2 : many * (2 * half) = 2 * (half * 2 ^ (p - (q + 1))) := by rw [HH.out.2, Nat.mul_comm (2 ^ (p - (q + 1))), Nat.mul_assoc]
         have := HMN.out
         omega
        have hz : ((q + 1 : Nat) : Int) = z := by have := HZ.out; omega
        have h := dAt (k := k) (p := p) (q := q + 1) (m := N / 2) (bw := bW) (bp := bp) (bq := bq) w' (gh.blk KW.out (by omega) (by omega)) (gh.blk KP.out (by omega) (by omega)) (by rw [hz]; exact gg.blk KQ.out (by omega) (by omega))
         (gh.fk FC.out (by omega) (by omega)) (gh.fk FS.out (by omega) (by omega)) (by omega) hlt (by have := HH2.out; omega) hi (by simp) (by simp) (by omega)
        rw [nth_range _ hi, nth_range _ hi] at h
        exact h))
      have h2h : 2 * half = E - F := by have := HH2.out; omega
      rw [h2h] at MG
      simp only [Nat.zero_add] at PT
      clear hE h2h lB lq lLL
      go_upto_region 15 with fail
      refine wp_region_held_drew (S := fun w' => Blk w' W0.heap.size 46 [.slice (some ⟨b, 0, none⟩) N c, .slice (some ⟨b', 0, none⟩) N c'] ∧ Blk w' bq 3 [.int .i64 z]) (by kernel_rfl) ⟨KV2.out.bel (Bel.refl _).drew, KQ2.out.bel (Bel.refl _).drew⟩ (fun hHeld => ?_)
      (try dsimp only at hHeld)
      refine rl (i := 0) (v := ?_) hHeld (fun w hSw => ?_) ?_
      rotate_left
      ·(have z0 := hSw.1.cell (i := 0) rfl; have z1 := hSw.1.cell (i := 1) rfl; have z2 := hSw.2.cell (i := 0) rfl; go_simp; try (with_reducible rfl))
      refine rt (i := 1) hHeld ?_
      refine rt (i := 2) hHeld ?_
      refine rl (i := 3) (v := ?_) hHeld (fun w hSw => ?_) ?_
      rotate_left
      ·(have z0 := hSw.1.cell (i := 0) rfl; have z1 := hSw.1.cell (i := 1) rfl; have z2 := hSw.2.cell (i := 0) rfl; go_simp; try (with_reducible rfl))
      refine rt (i := 4) hHeld ?_
      refine rt (i := 5) hHeld ?_
      refine rt (i := 7) hHeld ?_
      try simp only [Act.put, Ow.zS, Ow.zC, Ow.zD]
      refine rc (i := 6) (fun K hK => ?_)
      go_simp
      go_at_call 114
      (with_reducible refine (PT.out _).mono ?_); rintro e w8 ⟨rfl, b8⟩
      try go_wp2_with fail
      refine hK.out _ _ ⟨hHeld.1.bel b8, hHeld.2.bel b8⟩ (fun hHeld => ?_)
      clear hK K
      try simp only [Act.put, Ow.zS, Ow.zC, Ow.zD]
      refine rc (i := 8) (fun K hK => ?_)
      go_simp
      go_at_call 113
      (with_reducible refine (MG.out _ ((Bel.refl _).drew.trans b8)).mono ?_); rintro e w9 ⟨rfl, x9, y9, g9⟩
      try go_wp2_with fail
      have GX9 := Ho.mk x9
      have GY9 := Ho.mk y9
      have gG := (gr2_bel ((Bel.refl wr).drew.trans b8) b b').trans g9
      clear x9 y9
      refine hK.out _ _ ⟨g9.blk hHeld.1 (by have := LB.out; omega) (by have := LB.out; omega), g9.blk hHeld.2 (by have := LB.out; have := HQ.out; have := LL.out; omega) (by have := LB.out; have := HQ.out; have := LL.out; omega)⟩ (fun hHeld => ?_)
      clear hK K
      try simp only [Act.put, Ow.zS, Ow.zC, Ow.zD]
      refine wpAnyH_done (by kernel_rfl) ?_ _
      clear hHeld
      have q0 := (gG.blk KQ2.out (by have := LB.out; have := HQ.out; have := LL.out; omega) (by have := LB.out; have := HQ.out; have := LL.out; omega)).cell (i := 0) rfl
      have GG := Ho.mk ((gr2_bel ((Bel.refl wr).drew.trans b8) b b').trans g9)
      clear g9 b8
      go_wp2
      go_roundw
      case rel =>
       refine ⟨j + 1, F + H2, by omega, by rw [HE.out], ⟨?_⟩, ⟨?_⟩, ⟨?_⟩, ⟨H1.out.trans GG.out⟩⟩
       ·have := HF.out; have := HH2.out; rw [Nat.succ_mul]; omega
       ·rw [mergesS_succ, ← HF.out]; exact GX9.out
       ·rw [mergesS_succ, ← HF.out]; exact GY9.out
      case measure => simp [intOf]; omega
     ·obtain rfl : j = many := by omega
      have e9 : stageS p (tabW p) (swapG opsN (bitsG p) X, swapG opsN (bitsG p) Y) (q + 1) = mergesS half (fun k => tabW p (k * 2 ^ (p - (q + 1)))) st j := by
       rw [stageS_succ, ← HST.out, ← HH.out.1, ← HH.out.2]; rfl
      have HE9 := Ho.mk e9
      have hFN : ¬ F < N := by have := HF.out; have := HMN.out; omega
      have GZ := Ho.mk (HG.out.trans H1.out)
      have lz := GZ.out.size
      clear e9 KV1 KP1
      go_wp2_with fail
      go_roundw
      case rel =>
       have aa := (Bel.refl wr).alloc (.cells #[.int .i64 (z + 1)] 3)
       exact ⟨q + 1, wr.heap.size, z + 1, by omega, rfl, ⟨by have := HZ.out; omega⟩, ⟨lz⟩, ⟨Blk.new wr [.int .i64 (z + 1)] 3⟩, ⟨by rw [HE9.out]; exact GX.out.bel aa⟩, ⟨by rw [HE9.out]; exact GY.out.bel aa⟩, ⟨GZ.out.tb aa⟩⟩
      case measure =>
       rw [qOf_blk (Blk.new wr [.int .i64 (z + 1)] 3), qOf_blk KQ.out]
       have := HZ.out
       omega
   ·obtain rfl : q = p := by omega
    have hzp : (q : Int) < z := by have := HZ.out; omega
    go_wp2
    go_ret
    exact ⟨rfl, FX.out, FY.out, G6.out.trans HG.out⟩
end P8
namespace Pc
open Ieee Go Go.RowKit Go.Proofs Go.Proofs.YtalbgklfhabnkaaGreatDoor Ow Dt Gp U0 W0 S4 S6 P0 M0 M1 M2 M3 P4 P5 P6 P8 W4 W5 W1 W2
attribute [local go_sem ↓] Go.wp_at_zero Go.wp_at_succ
def intoN (p : Nat) (st : List Nat × List Nat) : List Nat × List Nat := intoG opsN (bitsG p) p (tabW p) st
theorem intoN_len {p : Nat} {st : List Nat × List Nat} (h1 : st.1.length = 2 ^ p) (h2 : st.2.length = 2 ^ p) : (intoN p st).1.length = 2 ^ p ∧ (intoN p st).2.length = 2 ^ p := by
 refine stages_len opsN (fun q k => tabW p (k * 2 ^ (p - (q + 1)))) (st := (swapG opsN (bitsG p) st.1, swapG opsN (bitsG p) st.2)) ?_ ?_ (Nat.le_refl p)
 ·rw [swapG_len]; exact h1
 ·rw [swapG_len]; exact h2
end Pc
namespace Pe
open Ieee Go Go.RowKit Go.Proofs Go.Proofs.YtalbgklfhabnkaaGreatDoor Ow Dt Gp G9 U0 W0 S4 S6 P0 M0 M1 M2 M3 P4 P5 P6 P8 W4 W5 W1 W2 Pc
attribute [local go_sem ↓] Go.wp_at_zero Go.wp_at_succ
def Cl (X : List Nat) : Prop := ∀ x ∈ X, x < 2 * sgnW ∧ cn x = x
theorem Fz.cl {w : World} {b : Nat} {X : List Nat} (h : Fz w b X) : Cl X := fun x hx => by
 obtain ⟨i, hi, rfl⟩ := List.getElem_of_mem hx
 obtain ⟨r, _, h1, h2⟩ := h.at_ hi
 rw [nthN_lt hi] at h2
 rw [← h2]; exact ⟨cn_lt h1, cn_idem r⟩
theorem Fr.cl {w : World} {A : Option Addr} {X : List Nat} (h : Fr w A X) : Cl X := fun x hx => by
 obtain ⟨i, hi, rfl⟩ := List.getElem_of_mem hx
 obtain ⟨ad, r, _, _, h1, h2⟩ := h.at_ hi
 rw [nthN_lt hi] at h2
 rw [← h2]; exact ⟨cn_lt h1, cn_idem r⟩
end Pe
namespace Pg
open Ieee Go Go.RowKit Go.Proofs Go.Proofs.YtalbgklfhabnkaaGreatDoor Ow Dt Gp I0 U0 W0 S4 S6 P0 M0 M1 M2 M3 P4 P5 P6 P8 W4 W5 W1 W2 Pc Pe
attribute [local go_sem ↓] Go.wp_at_zero Go.wp_at_succ
structure In (w : World) (v : Value) (X : List Nat) : Prop where
 out : ∃ A c, v = .slice A X.length c ∧ X.length ≤ c ∧ c ≤ 9223372036854775807 ∧ Fr w A X ∧ (A = none → X.length = 0)
theorem In.bel {w w' : World} {v : Value} {X : List Nat} (h : In w v X) (g : Bel w w') : In w' v X := by
 obtain ⟨A, c, h1, h2, h3, h4, h5⟩ := h.out
 exact ⟨A, c, h1, h2, h3, h4.bel g, h5⟩
theorem RowF.inn {w : World} {B : Nat} {v : Value} {X : List Nat} (h : RowF w B v X) (hm : X.length ≤ 35184372088831) : In w v X := by
 obtain ⟨A, c, h1, h2, h3, h4⟩ := h.out
 refine ⟨A, c, h1, h2, h3, ?_, fun e => ?_⟩
 ·rcases h4 with h4 | ⟨b, rfl, f, l⟩
  ·obtain rfl := List.length_eq_zero_iff.1 h4; exact Fr.nil _ _
  ·exact f.fr hm
 ·rcases h4 with h4 | ⟨b, rfl, f, l⟩
  ·exact h4
  ·cases e
theorem In.cl {w : World} {v : Value} {X : List Nat} (h : In w v X) : Cl X := by
 obtain ⟨A, c, h1, h2, h3, h4, h5⟩ := h.out
 exact Fr.cl h4
end Pg
namespace Y3
open Ieee Go Go.RowKit Go.Proofs Go.Proofs.YtalbgklfhabnkaaGreatDoor Ow Dt Gp I0 W0 S4 M0 M1 M3 W4 W5 V2
open Go.Proofs.YtalbgklfhabnkaaGreatDoor.V1 (NI St ni_same ni_loop St.refl St.of_bel blk_keep ni_blk put_st)
open Go.Proofs.YtalbgklfhabnkaaGreatDoor.J2 (Oz NP run_app)
open Go.Proofs.YtalbgklfhabnkaaGreatDoor.C6 (leaveAny)
open Go.Proofs.YtalbgklfhabnkaaGreatDoor.Pg (In)
attribute [local go_sem ↓] Go.wp_at_zero Go.wp_at_succ
attribute [local go_sem] Oper.semAt_some
def encI (i : Int) : Array Value := #[.int .i64 i]
def Walks (w : World) (gf : Nat) (lb : Array Value) (ys : List Int) : Prop := ∀ (n l : Nat) (W : World) (ks : List Nat), 1 ≤ n → Bel w W → (∀ k ∈ ks, w.heap.size ≤ k) →
 SeqB Tryz.prog n l gf lb encI ks ys.length (fun pre x _ => ys[pre.length]? = some x) (fun zs => zs = ys) (fun _ => True) W
def steps (fr by' : Int) (m : Nat) : List Int := (List.range m).map fun (k : Nat) => fr + k * by'
theorem steps_len (fr by' : Int) (m : Nat) : (steps fr by' m).length = m := by simp [steps]
theorem steps_at {fr by' : Int} {m k : Nat} (h : k < m) : (steps fr by' m)[k]? = some (fr + k * by') := by simp [steps, h]
theorem steps_succ (fr by' : Int) (k : Nat) : steps fr by' (k + 1) = steps fr by' k ++ [fr + k * by'] := by simp [steps, List.range_succ]
theorem places1 {fr by' en : Int} {m : Nat} (w : World) {bf be bb : Nat} (KF : Blk w bf 3 [.int .i64 fr]) (KE : Blk w be 3 [.int .i64 en]) (KB : Blk w bb 3 [.int .i64 by']) (hby : by' ≠ 0) (b1 : -1000000 ≤ fr ∧ fr ≤ 1000000) (b2 : -1000000 ≤ en ∧ en ≤ 1000000) (b3 : -1000000 ≤ by' ∧ by' ≤ 1000000)
  (hin : ∀ k : Nat, k < m → 0 ≤ fr + k * by' ∧ fr + k * by' < en) (hout : ¬ (0 ≤ fr + m * by' ∧ fr + m * by' < en)) :
  Walks w 131 #[.pointer (some ⟨bf, 0, none⟩), .pointer (some ⟨be, 0, none⟩), .pointer (some ⟨bb, 0, none⟩)] (steps fr by' m) := by
 intro n l W ks hn hW hks J Jx _ hJ hJx hY h0
 have lf := KF.lt
 have le := KE.lt
 have lb := KB.lt
 have KF := Ho.mk (KF.bel hW)
 have KE := Ho.mk (KE.bel hW)
 have KB := Ho.mk (KB.bel hW)
 have n1 : bf ∉ ks := fun q => by have := hks _ q; omega
 have n2 : be ∉ ks := fun q => by have := hks _ q; omega
 have n3 : bb ∉ ks := fun q => by have := hks _ q; omega
 have NK := Ho.mk (And.intro n1 (And.intro n2 n3))
 have HY := Ho.mk hY
 have H0 := Ho.mk h0
 have HIN := Ho.mk hin
 have HOUT := Ho.mk hout
 clear hY h0 hin hout n1 n2 n3 lf le lb hks hW
 have y0 := KF.out.cell (i := 0) rfl
 refine callsIn_wide.2 ?_
 go_enter Tryz.func131, Tryz.ntmps131
 refine (wpIn_wide (n := n)).1 ?_
 gi_wp2_with fail
 clear y0
 gi_loopw [5] (fun i wr => ∃ (z : Int) (k : Nat) (O : List Nat), i = .int .i64 z ∧ Ho (z = fr + k * by') ∧ k ≤ m ∧ Ho (J (steps fr by' k) O wr) ∧ Ho (Wk ks W wr) ∧ Ho (∀ q ∈ O, W.heap.size ≤ q)) (fun i _ => if 0 < by' then (en - intOf i).toNat else (intOf i + 1).toNat)
 case atStart => exact ⟨fr, 0, [], rfl, ⟨by simp⟩, Nat.zero_le _, H0, ⟨Wk.refl _ _⟩, ⟨by simp⟩⟩
 case round =>
  obtain ⟨z, k, O, rfl, hz, hk, hj, hw, hO⟩ := hrel
  have y1 := (hw.out.blk NK.out.2.1 KE.out).cell (i := 0) rfl
  rcases Nat.lt_or_ge k m with hlt | hge
  ·have hz2 := HIN.out k hlt
   rw [← hz.out] at hz2
   have hz3 := hz2.1
   have hz4 := hz2.2
   obtain ⟨fn, tmps, assign, body, hy, hR⟩ := HY.out _ O z wr hj.out (by rw [steps_len, steps_len]; exact hlt) (by rw [steps_len, steps_at hlt, hz.out]) hO.out hw.out.size
   dsimp only [encI] at hy
   clear hz2
   gi_wp2
   refine hR.mono ?_
   rintro e w4 (⟨rfl, hJ4, hY4⟩ | ⟨rfl, hJ4, hY4⟩)
   ·have y2 := ((hw.out.yd hY4).blk NK.out.2.2 KB.out).cell (i := 0) rfl
    have HJ := Ho.mk hJ4
    have HW := Ho.mk (hw.out.yd hY4)
    clear hJ4 hY4 hR hy y1
    gi_wp2
    go_roundw
    case rel => exact ⟨z + by', k + 1, O, rfl, ⟨by rw [hz.out]; push_cast; rw [Int.add_mul]; omega⟩, by omega, ⟨by rw [steps_succ, ← hz.out]; exact HJ.out⟩, HW, hO⟩
    case measure => simp only [intOf]; split <;> omega
   ·clear hR
    gi_wp2
    refine bodyPost_ret (results_none rfl _ _ _) rfl ?_
    exact ⟨⟨_, rfl⟩, .inr ⟨_, O, trivial, hJ4, hO.out⟩⟩
  ·obtain rfl : k = m := by omega
   have hn2 := HOUT.out
   rw [← hz.out] at hn2
   by_cases h1 : 0 ≤ z
   ·have h2 : en ≤ z := by omega
    clear hn2
    gi_wp2
    go_end0
    first | exact ⟨⟨_, rfl⟩, .inl ⟨_, O, rfl, hj.out, hO.out⟩⟩ | exact ⟨⟨_, rfl⟩, .inl ⟨O, hj.out, hO.out⟩⟩
   ·have h2 : z < 0 := by omega
    clear hn2 h1
    gi_wp2
    go_end0
    first | exact ⟨⟨_, rfl⟩, .inl ⟨_, O, rfl, hj.out, hO.out⟩⟩ | exact ⟨⟨_, rfl⟩, .inl ⟨O, hj.out, hO.out⟩⟩
theorem dPlaces {fr by' en : Int} (w : World) :
  Calls Tryz.prog 98 #[.int .i64 fr, .int .i64 by', .int .i64 en] w
   (fun e w' => e = .returned (.func (.func 131) #[] #[.pointer (some ⟨w.heap.size, 0, none⟩), .pointer (some ⟨w.heap.size + 1 + 1, 0, none⟩), .pointer (some ⟨w.heap.size + 1, 0, none⟩)]) ∧
    w' = ((w.alloc (.cells #[.int .i64 fr] 3)).alloc (.cells #[.int .i64 by'] 3)).alloc (.cells #[.int .i64 en] 3)) := by
 go_enter Tryz.func98, Tryz.ntmps98
 go_wp2
 refine bodyPost_ret (results_tmp rfl _ _ _) rfl ?_
 simp
theorem dPlacesW {fr by' en : Int} {m : Nat} (w : World) (hby : by' ≠ 0) (b1 : -1000000 ≤ fr ∧ fr ≤ 1000000) (b2 : -1000000 ≤ en ∧ en ≤ 1000000) (b3 : -1000000 ≤ by' ∧ by' ≤ 1000000)
  (hin : ∀ k : Nat, k < m → 0 ≤ fr + k * by' ∧ fr + k * by' < en) (hout : ¬ (0 ≤ fr + m * by' ∧ fr + m * by' < en)) :
  Calls Tryz.prog 98 #[.int .i64 fr, .int .i64 by', .int .i64 en] w
   (fun e w' => ∃ lb, e = .returned (.func (.func 131) #[] lb) ∧ Walks w' 131 lb (steps fr by' m) ∧ Bel w w') := by
 refine (dPlaces w).mono ?_
 rintro e w' ⟨rfl, rfl⟩
 have K1 := ((Blk.new w [.int .i64 fr] 3).old (.cells #[.int .i64 by'] 3)).old (.cells #[.int .i64 en] 3)
 have K2 := (Blk.new (w.alloc (.cells #[.int .i64 fr] 3)) [.int .i64 by'] 3).old (.cells #[.int .i64 en] 3)
 have K3 := Blk.new ((w.alloc (.cells #[.int .i64 fr] 3)).alloc (.cells #[.int .i64 by'] 3)) [.int .i64 en] 3
 simp only [World.size_alloc] at K2 K3
 exact ⟨_, rfl, places1 _ K1 K3 K2 hby b1 b2 b3 hin hout, (((Bel.refl w).alloc _).alloc _).alloc _⟩
structure Og (w : World) (v : Value) (Z : List Nat) : Prop where
 out : ∃ cs, Oz w 22 1 v Z.length cs ∧ ∀ j u, cs[j]? = some u → Fc u (nthN Z j)
theorem Og.nil (w : World) : Og w (.slice none 0 0) [] := ⟨[], Oz.nil _ _ _, fun j u h => by simp at h⟩
theorem Og.keep {w w' : World} {v : Value} {Z : List Nat} (h : Og w v Z) (k : ∀ g, v.ownBlock = some g → w'.heap[g]? = w.heap[g]?) : Og w' v Z := by
 obtain ⟨cs, h1, h2⟩ := h.out; exact ⟨cs, h1.keep k, h2⟩
theorem Og.lt {w : World} {v : Value} {Z : List Nat} (h : Og w v Z) {g : Nat} (hg : v.ownBlock = some g) : g < w.heap.size := by obtain ⟨cs, h1, _⟩ := h.out; exact h1.lt hg
theorem Og.slice {w : World} {v : Value} {Z : List Nat} (h : Og w v Z) : ∃ A c, v = .slice A Z.length c := by
 obtain ⟨cs, h1, _⟩ := h.out
 rcases h1.row with ⟨e, e2⟩ | ⟨g, cap, cur, e, _⟩
 ·exact ⟨none, 0, by rw [e, e2]⟩
 ·exact ⟨_, _, e⟩
theorem Og.rowF {w : World} {B : Nat} {v : Value} {Z : List Nat} (h : Og w v Z) (hB : ∀ g, v.ownBlock = some g → B ≤ g) : RowF w B v Z := by
 obtain ⟨cs, h1, h2⟩ := h.out
 have hl := h1.len
 rcases h1.row with ⟨rfl, h0⟩ | ⟨g, cap, cur, rfl, hb, k1, k2, k3, k4, _⟩
 ·exact ⟨none, 0, by rw [h0], by omega, by decide, .inl h0⟩
 ·refine ⟨_, cap, rfl, k1, by simp only [maxLen] at k2; omega, .inr ⟨g, rfl, ⟨cur.toList, ⟨by simpa using hb⟩, fun j hj => ?_⟩, hB g rfl⟩⟩
  have hjl : j < cs.length := by omega
  refine ⟨cs[j], ?_, h2 j _ (List.getElem?_eq_getElem hjl)⟩
  have : (cur.toList.take cs.length)[j]? = some cs[j] := by rw [k4]; exact List.getElem?_eq_getElem hjl
  rw [List.getElem?_take, if_pos hjl] at this
  exact this
theorem wp_appF {w : World} {o : Oper} {a : Act} {K : Act → World → Prop} {Q : Exit → Act → World → Prop} (s x : Operand) (ho : o.op = .call { callee := .builtin .append, args := #[s, x], argTypes := #[25, 25] })
  {v : Value} {Z : List Nat} (H : Og w v Z) (hs : a.eval s = v) {g c r : Nat} (hx : a.eval x = .slice (some ⟨g, 0, none⟩) 1 c) (hc : w.cell? ⟨g, 0, none⟩ = some (.float .f64 r)) (hr : r < 2 * sgnW) (hl : Z.length ≤ 100000)
  (h : ∀ v' w', Og w' v' (Z ++ [cn r]) → (w'.os = w.os ∧ w'.tape = w.tape ∧ w'.output = w.output ∧ w.heap.size ≤ w'.heap.size) → (∀ k, k < w.heap.size → w'.heap[k]? = w.heap[k]? ∨ (v.ownBlock = some k ∧ NI w k)) → (v'.ownBlock = v.ownBlock ∨ v'.ownBlock = some w.heap.size) → K (a.put o.dst v') w') :
  o.wp Tryz.prog a w K Q := by
 obtain ⟨cs, h1, h2⟩ := H.out
 obtain ⟨i, hi, hzz⟩ := Option.map_eq_some_iff.1 infoF
 simp only [Prod.mk.injEq] at hzz
 obtain ⟨hz, hsz, hb⟩ := hzz
 obtain ⟨v', w', hr', g1, g2, g3, g4⟩ := run_app (P := Tryz.prog) w 25 o.type 22 i (.float .f64 0) 1 8 Tryz.underlying25 hi hz hsz hb rfl (by decide) (by intro u hu z e; simp [Value.cells] at hu; subst hu; cases e) v Z.length cs h1 ⟨g, 0, none⟩ c [.float .f64 r] rfl
  (fun j u hj => by cases j with
   | zero => simp at hj; subst hj; rw [Addr.add_lit]; exact hc
   | succ j => simp at hj) (fun u hu => by simp at hu; subst hu; rfl) (fun u hu z e => by simp at hu; subst hu; cases e) (by omega) (by omega)
 unfold Oper.wp
 simp [execOp, ho, resolve, invoke, builtin, hs, hx, hr', Result.andThen]
 refine h v' w' ⟨cs ++ [.float .f64 r], by rw [List.length_append]; exact g1, fun j u hj => ?_⟩ g2 g3 g4
 have hcl := h1.len
 rw [List.getElem?_append] at hj
 split at hj
 ·rename_i hlt
  have := h2 j u hj
  rw [nthN_lt (by omega)] at this
  rw [nthN_lt (by rw [List.length_append]; omega), List.getElem_append_left (by omega)]; exact this
 ·rename_i hge
  have h0 : j - cs.length = 0 := by
   rcases hq : j - cs.length with _ | q
   ·rfl
   ·rw [hq] at hj; simp at hj
  rw [h0] at hj
  simp at hj
  subst hj
  have hjz : j = Z.length := by omega
  subst hjz
  refine ⟨r, rfl, hr, ?_⟩
  rw [nthN_lt (by simp)]; simp
theorem Og.far {w : World} {v : Value} {Z : List Nat} (h : Og w v Z) {p : Addr} (hp : v.ownBlock ≠ some p.block) (u : Value) : Og (w.setCell p u) v Z := h.keep fun g hg => Below.heap_setCell _ _ _ _ (fun e => hp (by rw [hg, e]))
theorem Og.bel {w w' : World} {v : Value} {Z : List Nat} (h : Og w v Z) (g : Bel w w') : Og w' v Z := h.keep fun k hk => g.block (h.lt hk)
theorem Og.form {w : World} {v : Value} {Z : List Nat} (h : Og w v Z) (hp : 0 < Z.length) : ∃ g c, v = .slice (some ⟨g, 0, none⟩) Z.length c ∧ Z.length ≤ c := by
 obtain ⟨cs, h1, h2⟩ := h.out
 rcases h1.row with ⟨rfl, h0⟩ | ⟨g, cap, cur, rfl, hb, k1, k2, k3, k4, _⟩
 ·omega
 ·exact ⟨g, cap, rfl, k1⟩
theorem Og.fz {w : World} {g n c : Nat} {Z : List Nat} (h : Og w (.slice (some ⟨g, 0, none⟩) n c) Z) : Fz w g Z := by
 obtain ⟨cs, h1, h2⟩ := h.out
 have hl := h1.len
 rcases h1.row with ⟨e, h0⟩ | ⟨g', cap, cur, e, hb, k1, k2, k3, k4, _⟩
 ·cases e
 ·cases e
  refine ⟨cur.toList, ⟨by simpa using hb⟩, fun j hj => ?_⟩
  have hjl : j < cs.length := by omega
  refine ⟨cs[j], ?_, h2 j _ (List.getElem?_eq_getElem hjl)⟩
  have : (cur.toList.take cs.length)[j]? = some cs[j] := by rw [k4]; exact List.getElem?_eq_getElem hjl
  rw [List.getElem?_take, if_pos hjl] at this
  exact this
theorem Og.setF {w : World} {g n c : Nat} {Z : List Nat} (h : Og w (.slice (some ⟨g, 0, none⟩) n c) Z) (i : Nat) {r x : Nat} (hr : r < 2 * sgnW) (hx : cn r = x) : Og (w.setCell ⟨g, i, none⟩ (.float .f64 r)) (.slice (some ⟨g, 0, none⟩) n c) (Z.set i x) := by
 obtain ⟨cs, h1, h2⟩ := h.out
 have hl := h1.len
 rcases h1.row with ⟨e, h0⟩ | ⟨g', cap, cur, e, hb, k1, k2, k3, k4, k5⟩
 ·cases e
 ·cases e
  have hnp : NP (cur.toList.set i (.float .f64 r)) := fun x hx z e => by
   rcases List.mem_or_eq_of_mem_set hx with q | q
   ·exact k5 x q z e
   ·subst q; cases e
  refine ⟨cs.set i (.float .f64 r), ⟨by rw [List.length_set, List.length_set]; exact hl, .inr ⟨g, c, (cur.toList.set i (.float .f64 r)).toArray, by rw [List.length_set], ?_, by rw [List.length_set]; exact k1, k2, by simp; omega, ?_, by simpa using hnp⟩⟩, fun j u hj => ?_⟩
  ·have KB : Blk w g 22 cur.toList := ⟨by simpa using hb⟩
   exact (KB.set i (.float .f64 r)).out
  ·rw [List.length_set]
   show List.take cs.length (cur.toList.set i _) = _
   rw [List.take_set, k4]
  ·rw [nthN_set]
   rw [List.getElem?_set] at hj
   by_cases e : i = j
   ·subst e
    by_cases hi : i < cs.length
    ·rw [if_pos rfl, if_pos hi] at hj
     cases hj
     rw [if_pos ⟨rfl, by omega⟩]
     exact ⟨r, rfl, hr, hx⟩
    ·rw [if_pos rfl, if_neg hi] at hj; cases hj
   ·rw [if_neg e] at hj
    rw [if_neg (fun q => e q.1)]
    exact h2 j u hj
structure Ap (w w' : World) (v v' : Value) : Prop where
 os : w'.os = w.os
 tape : w'.tape = w.tape
 output : w'.output = w.output
 size : w.heap.size ≤ w'.heap.size
 same : ∀ k, k < w.heap.size → v.ownBlock ≠ some k → w'.heap[k]? = w.heap[k]?
 own : v'.ownBlock = v.ownBlock ∨ v'.ownBlock = some w.heap.size
theorem Ap.bel {u w w' : World} {v v' : Value} (h : Ap w w' v v') (k : Bel u w) (hv : ∀ g, v.ownBlock = some g → u.heap.size ≤ g) : Bel u w' :=
 ⟨k.out.trans ⟨h.os, h.tape, h.output, h.size, fun i hi => h.same i (by have := k.size; omega) (fun e => by have := hv i e; omega)⟩⟩
theorem Ap.blk {w w' : World} {v v' : Value} (h : Ap w w' v v') {b : Nat} {t : TypeId} {cs : List Value} (k : Blk w b t cs) (hb : v.ownBlock ≠ some b) : Blk w' b t cs := blk_keep k (h.same b k.lt hb)
structure IP (w : World) (b2 b5 : Nat) (L : Value) (pre : List Int) (X : List Nat) (O : List Nat) (W : World) (v : Value) : Prop where
 bel : Bel w W
 big : b5 + 1 ≤ W.heap.size
 own : ∀ k ∈ O, b5 + 1 ≤ k
 top : ∀ k ∈ O, k < W.heap.size
 lst : Blk W b2 25 [L]
 var : Blk W b5 25 [v]
 row : Og W v (pre.map fun i => nthN X i.toNat)
 far : ∀ g, v.ownBlock = some g → g ∉ O ∧ b5 + 3 ≤ g
theorem ip_abides {w : World} {b2 b5 : Nat} {L : Value} {X : List Nat} (h0 : w.heap.size ≤ b2) (h1 : b2 < b5) (pre : List Int) : V1.Abides fun O W => ∃ v, IP w b2 b5 L pre X O W v := by
 rintro O A O' B ⟨v, h⟩ hs h2 h3
 have same : ∀ k, k < A.heap.size → k ∉ O → B.heap[k]? = A.heap[k]? := fun k hk hn => (hs.block k hk).elim id (fun q => (hn q.1).elim)
 have low : ∀ k, k ≤ b5 → k ∉ O := fun k hk q => by have := h.own k q; omega
 have hb := h.big
 have sz := hs.size
 refine ⟨v, ⟨⟨⟨hs.os.trans h.bel.out.os, hs.tape.trans h.bel.out.tape, hs.output.trans h.bel.out.output, Nat.le_trans h.bel.size sz, fun k hk => (same k (Nat.lt_of_lt_of_le hk h.bel.size) (low k (by omega))).trans (h.bel.out.block k hk)⟩⟩, by omega,
  fun k hk => (h3 k hk).elim (h.own k) (fun q => by omega), fun k hk => (h3 k hk).elim (fun q => Nat.lt_of_lt_of_le (h.top k q) sz) (fun q => q.2), blk_keep h.lst (same _ (by omega) (low _ (by omega))), blk_keep h.var (same _ (by omega) (low _ (by omega))),
  h.row.keep (fun g hg => same g (h.row.lt hg) (h.far g hg).1), fun g hg => ⟨fun q => (h3 g q).elim (h.far g hg).1 (fun q => by have := h.row.lt hg; omega), (h.far g hg).2⟩⟩⟩
theorem dPicked {A : Option Addr} {c gf : Nat} {lb : Array Value} {X : List Nat} {ys : List Int} (w : World) (hx : In w (.slice A X.length c) X) (hl : X.length ≤ 100000) (hy : ∀ i ∈ ys, 0 ≤ i ∧ i < X.length) (hys : ys.length ≤ 100000) (hw : Walks w gf lb ys) (eg : ∀ args w, (callFunc gf args).run Tryz.prog w = .ok (.enter gf args) w) :
  Calls Tryz.prog 100 #[.slice A X.length c, .func (.func gf) #[] lb] w fun e w' => ∃ v, e = .returned v ∧ (Og w' v (ys.map fun i => nthN X i.toNat) ∧ ∀ g, v.ownBlock = some g → w.heap.size ≤ g) ∧ Bel w w' := by
 have HX := Ho.mk hx
 have HW := Ho.mk hw
 have HY := Ho.mk hy
 clear hx hw hy
 refine (callsIn_wide (n := 3)).1 ?_
 refine callsIn_of_wp_marks Tryz.func100 rfl trivial ?_ rfl
 simp only [Tryz.ntmps100, List.size_toArray, List.length_cons, List.length_nil, Nat.reduceAdd, Nat.reduceSub, Array.replicate_succ, Array.replicate_zero, List.push_toArray, List.append_toArray, List.nil_append, List.cons_append]
 gi_wp2_with fail
 have KL := Ho.mk ((Blk.new w [.slice A X.length c] 25).old (.cells #[.slice none 0 0] 25))
 have KO := Ho.mk (Blk.new (w.alloc (.cells #[.slice A X.length c] 25)) [.slice none 0 0] 25)
 have HB := Ho.mk (((Bel.refl w).alloc (.cells #[.slice A X.length c] 25)).alloc (.cells #[.slice none 0 0] 25))
 have HS : ((w.alloc (.cells #[.slice A X.length c] 25)).alloc (.cells #[.slice none 0 0] 25)).heap.size = w.heap.size + 2 := by simp only [World.size_alloc]
 simp only [World.size_alloc] at KO
 generalize (w.alloc (.cells #[.slice A X.length c] 25)).alloc (.cells #[.slice none 0 0] 25) = w5 at *
 refine rangeB (α := Int) (encs := encI) (bs := [w.heap.size + 1]) (N := ys.length) (Bd := False) (Px := fun pre x _ => ys[pre.length]? = some x) (S := fun zs => zs = ys) (Sp := fun _ => True)
  (by omega) rfl eg (fun x => by rfl) (by intro k hk; simp at hk; omega) ?_
  (fun pre O W => ∃ v, IP w w.heap.size (w.heap.size + 1) (.slice A X.length c) pre X O W v) (fun _ _ _ _ => False) (fun h => h.elim) (ip_abides (Nat.le_refl _) (by omega)) (fun _ _ _ _ _ _ h => h.elim) ?_
  (fun pre x a' W => a' = { tmps := #[.slice A X.length c, .func (.func gf) #[] lb, .pointer (some ⟨w.heap.size, 0, none⟩), undef, .slice none 0 0, .pointer (some ⟨w.heap.size + 1, 0, none⟩), .int .i64 x, .func (.func gf) #[] lb, .int .i64 x, undef, undef, undef, undef, undef, undef, undef, undef], defers := [] } ∧ ys[pre.length]? = some x) ?_ ?_ ?_ ?_ ?_
 ·intro W hW hBW
  exact HW.out _ _ W _ (by omega) (HB.out.trans hBW) (fun k hk => by simp at hk; omega)
 ·exact ⟨_, HB.out, by omega, by simp, by simp, KL.out, KO.out, Og.nil _, by simp [Value.ownBlock]⟩
 ·rintro pre x a' A r o hr h; exact h
 ·rintro l pre O x W K ⟨v, hI⟩ hsz hx1 hK
  simp [encI]
  gi_wp2
  exact hK _ _ (Bel.refl W) ⟨rfl, hx1⟩
 ·-- a round
  rintro l pre O x a' W ⟨v, hI⟩ hlen hsz ⟨rfl, hx1⟩ hO hlO
  obtain ⟨hx0, hxl⟩ := HY.out x (List.mem_of_getElem? hx1)
  have hR := hI.row
  obtain ⟨Z, hZ⟩ : ∃ Z, Z = pre.map (fun i => nthN X i.toNat) := ⟨_, rfl⟩
  rw [← hZ] at hR
  obtain ⟨sA, sc, rfl⟩ := hR.slice
  have HR := Ho.mk hR
  have HZ := Ho.mk hZ
  have lZ : Z.length ≤ 100000 := by rw [hZ, List.length_map]; omega
  clear hR hZ
  obtain ⟨A1, c1, e1, hc1, hc2, hfr, _⟩ := HX.out.out
  cases e1
  obtain ⟨ad, _, rfl, hcell, r, rfl, hr1, hr2⟩ := hfr.cell x.toNat (by omega)
  have y5 := hI.var.cell (i := 0) rfl
  have y2 := hI.lst.cell (i := 0) rfl
  have yx := hI.bel.cell hcell
  have zx : x = (x.toNat : Int) := by omega
  have HI := Ho.mk hI
  have HC := Ho.mk (And.intro hr1 hr2)
  have HX1 := Ho.mk hx1
  clear hI hcell hr1 hr2 hx1 hfr
  generalize x.toNat = xn at *
  subst zx
  refine wpIn_block ?_
  refine Yi.late_round 6 (S := fun w' => Bel W w') (by kernel_rfl) (by intro o ho c e; simp at ho; rcases ho with rfl | rfl | rfl | rfl | rfl | rfl | rfl | rfl <;> cases e) (by rintro ⟨_, _, h⟩; exact h) (Bel.refl _).drew (fun hHeld => ?_)
  (try dsimp only at hHeld)
  refine I7.kl (i := 0) (v := ?_) hHeld (fun w' hSw => ?_) ?_
  rotate_left
  ·(have z0 := hSw.cell y5; go_simp; try (with_reducible rfl))
  refine I7.kl (i := 1) (v := ?_) hHeld (fun w' hSw => ?_) ?_
  rotate_left
  ·(have z0 := hSw.cell y2; go_simp; try (with_reducible rfl))
  refine I7.kt (i := 2) hHeld ?_
  refine I7.kt (i := 3) hHeld ?_
  refine I7.kl (i := 4) (v := ?_) hHeld (fun w' hSw => ?_) ?_
  rotate_left
  ·(have z0 := hSw.cell yx; go_simp; try (with_reducible rfl))
  try simp only [Act.put, Ow.zS, Ow.zC, Ow.zD]
  refine I7.kc (i := 5) (fun K hK => ?_)
  go_simp
  refine hK.out _ _ (Bel.alloc hHeld _) (fun hHeld => ?_)
  clear hK K
  try simp only [Act.put, Ow.zS, Ow.zC, Ow.zD]
  have z9 : (W.alloc (.cells #[.float .f64 r] 22)).drew.cell? ⟨W.heap.size, 0, none⟩ = some (.float .f64 r) := (Blk.new W [.float .f64 r] _).cell (i := 0) rfl
  have hD : Bel W (W.alloc (.cells #[.float .f64 r] 22)).drew := ((Bel.refl W).alloc _).drew
  have hsD : (W.alloc (.cells #[.float .f64 r] 22)).drew.heap.size = W.heap.size + 1 := by show (World.alloc W _).heap.size = _; rw [World.size_alloc]
  have al : ∀ k, k < W.heap.size → (W.alloc (.cells #[.float .f64 r] 22)).drew.heap[k]? = W.heap[k]? := fun k hk => hD.block hk
  generalize (W.alloc (.cells #[.float .f64 r] 22)).drew = WD at *
  refine I7.ke (i := 6) (fun K hK => ?_)
  refine wp_appF _ _ rfl (HR.out.keep (fun g hg => al g (HR.out.lt hg))) rfl rfl z9 HC.out.1 lZ ?_
  intro v' w' ho he hb hat
  obtain ⟨Z2, hZ2⟩ : ∃ Z2, Z2 = Z ++ [cn r] := ⟨_, rfl⟩
  rw [← hZ2] at ho
  have HZ2 := Ho.mk hZ2
  clear hZ2
  obtain ⟨tA, tc, rfl⟩ := ho.slice
  have hbig := HI.out.big
  have low : ∀ k, k < w.heap.size + 4 → k < W.heap.size → w'.heap[k]? = W.heap[k]? := fun k h1 h2 => by
   rcases hb k (by omega) with q | ⟨q, _⟩
   ·exact q.trans (al k h2)
   ·have := (HI.out.far k q).2; omega
  have KV : Ho (Blk w' (w.heap.size + 1) 25 [.slice sA Z.length sc]) := ⟨blk_keep HI.out.var (low _ (by omega) (by omega))⟩
  have HE := Ho.mk (And.intro ho (And.intro he (And.intro hb (And.intro hat (And.intro low al)))))
  have y0 := KV.out.cell (i := 0) rfl
  have x0 := KV.out.free 0
  refine hK.out _ _ ?_
  clear hK K ho he hb hat low al y5 y2 yx z9
  try simp only [Act.put, Ow.zS, Ow.zC, Ow.zD]
  refine I7.ke2 (i := 7) (fun K hK => ?_)
  go_simp
  refine hK.out _ _ ?_
  clear hK K
  refine wpAny_done (by kernel_rfl) ?_ _
  obtain ⟨ho, he, hb, hat, low, al⟩ := HE.out
  have hI := HI.out
  generalize hv : Value.slice tA Z2.length tc = v2 at *
  have nv : NI W (w.heap.size + 1) := ni_blk hI.var (by intro i z hz; cases i <;> simp at hz)
  have ne : ∀ k, k ≠ w.heap.size + 1 → (w'.setCell ⟨w.heap.size + 1, 0, none⟩ v2).heap[k]? = w'.heap[k]? := fun k hk => Below.heap_setCell _ _ _ _ (by first | exact hk | exact Ne.symm hk)
  have sz : w'.heap.size = (w'.setCell ⟨w.heap.size + 1, 0, none⟩ v2).heap.size := by simp [World.setCell]
  have hY : Yd [w.heap.size + 1] O (w5.heap.size + 2) W (w'.setCell ⟨w.heap.size + 1, 0, none⟩ v2) := ⟨he.1.trans hD.out.os, he.2.1.trans hD.out.tape, he.2.2.1.trans hD.out.output, by rw [← sz]; omega, fun k hk => by
   by_cases e : k = w.heap.size + 1
   ·subst e
    exact .inr ⟨.inl nv, fun q => by have := hI.own _ q; omega, .inl (by simp)⟩
   ·rcases hb k (by omega) with q | ⟨q1, q2⟩
    ·exact .inl ((ne k e).trans (q.trans (al k hk)))
    ·exact .inr ⟨.inl (ni_same (al k hk).symm q2), (hI.far k q1).1, .inr (by have := (hI.far k q1).2; omega)⟩⟩
  have fr : ∀ g, v2.ownBlock = some g → g ∉ O ∧ w.heap.size + 1 + 3 ≤ g := fun g hg => by
   rcases hat with q | q
   ·exact hI.far g (q ▸ hg)
   ·rw [hg] at q
    cases q
    exact ⟨fun q => by have := hI.top _ q; omega, by omega⟩
  refine ⟨hY, v2, ?_⟩
  refine ⟨⟨⟨hY.os.trans hI.bel.out.os, hY.tape.trans hI.bel.out.tape, hY.output.trans hI.bel.out.output, Nat.le_trans hI.bel.size hY.size, fun k hk => ?_⟩⟩, by have := hY.size; omega, hI.own, fun k hk => Nat.lt_of_lt_of_le (hI.top k hk) hY.size, blk_keep hI.lst ((ne _ (by omega)).trans (low _ (by omega) (by omega))), KV.out.set 0 _, ?_, fr⟩
  ·have := hI.bel.size
   exact (ne k (by omega)).trans ((low k (by omega) (by omega)).trans (hI.bel.out.block k hk))
  ·rw [List.map_append, ← HZ.out, List.map_cons, List.map_nil, Int.toNat_natCast, ← HC.out.2, ← HZ2.out]
   exact ho.keep fun g hg => ne g (by have := (fr g hg).2; omega)
 ·-- all have come
  rintro zs O W hsz rfl ⟨v, hI⟩ hd
  have y0 := hI.var.cell (i := 0) rfl
  have HI := Ho.mk hI
  clear hI
  gi_wp2_with fail
  refine leaveAny hd (bodyPost_ret (results_tmp rfl _ _ _) rfl ?_)
  have hfar := HI.out.far
  have hbl := HI.out.bel
  refine ⟨v, rfl, ⟨HI.out.row.keep fun g hg => World.putObj_heap_other (by have := (hfar g hg).2; omega), fun g hg => by have := (hfar g hg).2; omega⟩, ⟨⟨hbl.out.os, hbl.out.tape, hbl.out.output, by have := hbl.size; simpa [World.putObj] using this, fun j hj => (World.putObj_heap_other (by omega)).trans (hbl.out.block j hj)⟩⟩⟩
 ·rintro c pre O W hsz _ hI; exact hI.elim
def idx (X : List Nat) (ys : List Int) : List Nat := ys.map fun i => nthN X i.toNat
theorem idx_even (X : List Nat) : idx X (steps 0 2 ((X.length + 1) / 2)) = M2.evenG opsN X := by
 apply List.ext_getElem (by simp [idx, steps, M2.evenG])
 intro i h1 h2
 simp only [idx, steps, M2.evenG, List.getElem_map, List.getElem_range]
 show nthN X _ = nthN X _
 congr 1; omega
theorem idx_odd (X : List Nat) : idx X (steps 1 2 (X.length / 2)) = M2.oddG opsN X := by
 apply List.ext_getElem (by simp [idx, steps, M2.oddG])
 intro i h1 h2
 simp only [idx, steps, M2.oddG, List.getElem_map, List.getElem_range]
 show nthN X _ = nthN X _
 congr 1; omega
theorem steps_mem {fr by' : Int} {m : Nat} {i : Int} (h : i ∈ steps fr by' m) : ∃ k : Nat, k < m ∧ i = fr + k * by' := by
 simp only [steps, List.mem_map, List.mem_range] at h
 obtain ⟨k, h1, h2⟩ := h
 exact ⟨k, h1, h2.symm⟩
def MakesG (w : World) (Z : List Nat) (e : Ending) (w' : World) : Prop := ∃ A c, e = .returned (.slice A Z.length c) ∧ (Og w' (.slice A Z.length c) Z ∧ ∀ g, (Value.slice A Z.length c).ownBlock = some g → w.heap.size ≤ g) ∧ Bel w w'
def MakesF (w : World) (Z : List Nat) (e : Ending) (w' : World) : Prop := ∃ A c, e = .returned (.slice A Z.length c) ∧ RowF w' w.heap.size (.slice A Z.length c) Z ∧ Bel w w'
theorem dEven {A : Option Addr} {c : Nat} {X : List Nat} (w : World) (hx : In w (.slice A X.length c) X) (hl : X.length ≤ 100000) :
  Calls Tryz.prog 119 #[.slice A X.length c] w (MakesG w (M2.evenG opsN X)) := by
 have HX := Ho.mk hx
 have P := Ho.mk (dPlacesW (fr := 0) (by' := 2) (en := (X.length : Int)) (m := (X.length + 1) / 2) w (by decide) (by omega) (by omega) (by decide) (fun k hk => by omega) (by omega))
 clear hx
 go_enter Tryz.func119, Tryz.ntmps119
 go_wp2_with fail
 (with_reducible refine P.out.mono ?_); rintro e w1 ⟨lb, rfl, hW, b1⟩
 have HW := Ho.mk hW
 have HB := Ho.mk b1
 clear P hW b1
 have C := Ho.mk (dPicked w1 (HX.out.bel HB.out) hl (fun i hi => by obtain ⟨k, h1, h2⟩ := steps_mem hi; omega) (by rw [steps_len]; omega) HW.out (fun args w => rfl))
 go_wp2_with fail
 (with_reducible refine C.out.mono ?_); rintro e w2 ⟨v, rfl, r, b2⟩
 have R := Ho.mk r
 have B2 := Ho.mk b2
 clear C r b2
 go_wp2
 go_ret
 have r := R.out
 rw [show (List.map (fun i => nthN X i.toNat) (steps 0 2 ((X.length + 1) / 2))) = (M2.evenG opsN X) from idx_even X] at r
 obtain ⟨A', c', e⟩ := r.1.slice
 subst e
 exact ⟨A', c', rfl, ⟨r.1, fun g hg => Nat.le_trans HB.out.size (r.2 g hg)⟩, HB.out.trans B2.out⟩
theorem dOdd {A : Option Addr} {c : Nat} {X : List Nat} (w : World) (hx : In w (.slice A X.length c) X) (hl : X.length ≤ 100000) :
  Calls Tryz.prog 120 #[.slice A X.length c] w (MakesG w (M2.oddG opsN X)) := by
 have HX := Ho.mk hx
 have P := Ho.mk (dPlacesW (fr := 1) (by' := 2) (en := (X.length : Int)) (m := X.length / 2) w (by decide) (by omega) (by omega) (by decide) (fun k hk => by omega) (by omega))
 clear hx
 go_enter Tryz.func120, Tryz.ntmps120
 go_wp2_with fail
 (with_reducible refine P.out.mono ?_); rintro e w1 ⟨lb, rfl, hW, b1⟩
 have HW := Ho.mk hW
 have HB := Ho.mk b1
 clear P hW b1
 have C := Ho.mk (dPicked w1 (HX.out.bel HB.out) hl (fun i hi => by obtain ⟨k, h1, h2⟩ := steps_mem hi; omega) (by rw [steps_len]; omega) HW.out (fun args w => rfl))
 go_wp2_with fail
 (with_reducible refine C.out.mono ?_); rintro e w2 ⟨v, rfl, r, b2⟩
 have R := Ho.mk r
 have B2 := Ho.mk b2
 clear C r b2
 go_wp2
 go_ret
 have r := R.out
 rw [show (List.map (fun i => nthN X i.toNat) (steps 1 2 (X.length / 2))) = (M2.oddG opsN X) from idx_odd X] at r
 obtain ⟨A', c', e⟩ := r.1.slice
 subst e
 exact ⟨A', c', rfl, ⟨r.1, fun g hg => Nat.le_trans HB.out.size (r.2 g hg)⟩, HB.out.trans B2.out⟩
end Y3
namespace Y4
open Ieee Go Go.RowKit Go.Proofs Go.Proofs.YtalbgklfhabnkaaGreatDoor Ow Dt Gp I0 U0 W0 S4 S6 P0 M0 M1 M3 W4 W5 V2 P4 Y3 Yh
open Go.Proofs.YtalbgklfhabnkaaGreatDoor.V1 (NI St ni_same ni_loop St.refl St.of_bel blk_keep ni_blk put_st)
open Go.Proofs.YtalbgklfhabnkaaGreatDoor.C6 (leaveAny)
open Go.Proofs.YtalbgklfhabnkaaGreatDoor.Pg (In)
attribute [local go_sem ↓] Go.wp_at_zero Go.wp_at_succ
attribute [local go_sem] Oper.semAt_some
theorem dLogR {n : Nat} {fn : Nat} (hfn : fn = 118) (w : World) (h : n < 1100) (T : Tab w) : Calls Tryz.prog fn #[.int .i64 (n : Int)] w fun e w' => e = .returned (.int .i64 (logI n)) ∧ w = w' := by
 have TT := Ho.mk T
 clear T
 subst hfn
 obtain ⟨k, hk⟩ : ∃ k : Int, k = (n : Int) := ⟨_, rfl⟩
 by_cases h0 : n = 0
 ·subst h0
  have e : logI 0 = -1 := by decide
  rw [e]
  go_enter Tryz.func118, Tryz.ntmps118
  go_wp2
  go_ret
  exact ⟨rfl, rfl⟩
 ·obtain ⟨f1, f2⟩ := log_fact h h0
  have F2 := Ho.mk f2
  have hk0 : 0 < k := by omega
  have hk1 : k < 1100 := by omega
  by_cases hp : 2 ^ Nat.log2 n = n
  ·have hb : bits .and .i64 k (k - 1) = 0 := by rw [hk]; exact f1.2 hp
   have HE := Ho.mk (show logI n = if n ≤ 1024 then (Nat.log2 n : Int) else -1 by unfold logI; by_cases c : n ≤ 1024 <;> simp [h0, hp, c])
   have HT := Ho.mk (f2 hp)
   rw [HE.out, ← hk]
   have HK := Ho.mk hk
   clear f1 f2 hp h0 hk
   by_cases c : 1024 < k
   ·rw [if_neg (by have := HK.out; omega)]
    go_enter Tryz.func118, Tryz.ntmps118
    go_wp2
    go_ret
    exact ⟨rfl, rfl⟩
   ·rw [if_pos (by have := HK.out; omega)]
    go_enter Tryz.func118, Tryz.ntmps118
    go_wp2_with (go_at_call 39; (with_reducible refine (E1.tz_callsI _ _ (by omega) (by omega) TT.out).mono ?_); rintro e w' ⟨rfl, rfl⟩)
    go_ret
    refine ⟨?_, rfl⟩
    rw [show k.toNat = n by have := HK.out; omega, HT.out]; rfl
  ·have hb : ¬ bits .and .i64 k (k - 1) = 0 := by rw [hk]; exact fun e => hp (f1.1 e)
   have HE : logI n = -1 := by unfold logI; rw [if_neg (fun q => hp q.2.1)]
   rw [HE, ← hk]
   clear f1 f2 hp h0 hk HE F2
   go_enter Tryz.func118, Tryz.ntmps118
   go_wp2
   go_ret
   exact ⟨rfl, rfl⟩
theorem then_falseW {P : Program} {c : Code} {K : Act → World → Prop} {Q : Exit → Act → World → Prop} {a : Act} {w : World} (h : c.wp P (Exit.then K (fun _ _ _ => False)) a w) : c.wp P (Exit.then K Q) a w :=
 (wpIn_wide (n := 0)).1 (J3.then_false (wpIn_wide.2 h))
theorem Fz.at2 {w : World} {b : Nat} {X : List Nat} (K : Fz w b X) (i : Nat) (hi : i < X.length) : ∃ v, w.cell? ⟨b, i, none⟩ = some v := by obtain ⟨r, h, _⟩ := K.at_ hi; exact ⟨_, h⟩
theorem dPut {b n c k r s : Nat} {X : List Nat} (w : World) (K : Fk w b X) (hk : 2 * k + 1 < n) (hX : X.length = n) (hn : n ≤ 100000) (hr : r < 2 * sgnW) (hs : s < 2 * sgnW) :
  Calls Tryz.prog 121 #[.slice (some ⟨b, 0, none⟩) n c, .int .i64 (k : Int), .float .f64 r, .float .f64 s] w
   fun e w' => e = .returned (.tuple #[]) ∧ Fk w' b ((X.set (2 * k) (cn r)).set (2 * k + 1) (cn s)) ∧ Gr b w w' := by
 have K2 := K.set (2 * k) hr rfl
 have K3 := K2.set (2 * k + 1) hs rfl
 obtain ⟨_, y0⟩ := Fz.at2 K.fz (2 * k) (by omega)
 have x0 := K.free (2 * k)
 obtain ⟨_, y1⟩ := Fz.at2 K2.fz (2 * k + 1) (by rw [List.length_set]; omega)
 have x1 := K2.free (2 * k + 1)
 have G := Ho.mk (((Gr.refl b w).set (2 * k) (.float .f64 r)).set (2 * k + 1) (.float .f64 s))
 have K3 := Ho.mk K3
 have e1 : (2 * (k : Int)).toNat = 2 * k := by omega
 have e2 : (2 * (k : Int) + 1).toNat = 2 * k + 1 := by omega
 clear K K2
 go_enter Tryz.func121, Tryz.ntmps121
 go_wp2_with fail
 go_end0
 exact ⟨rfl, K3.out, G.out⟩
theorem hp_abides {W0 : World} {L : List Ent} {B : Nat} (hL : ∀ e ∈ L, e.b < B) (hB : W0.heap.size ≤ B) : V1.Abides (fun O W => Hp W0 W L ∧ B ≤ W.heap.size ∧ ∀ k ∈ O, B ≤ k ∧ k < W.heap.size) := by
 rintro O A O' C ⟨h, hb, ho⟩ hs h1 h2
 have sz := hs.size
 have same : ∀ k, k < B → C.heap[k]? = A.heap[k]? := fun k hk => (hs.block k (by omega)).elim id (fun q => by have := (ho k q.1).1; omega)
 exact ⟨⟨⟨⟨hs.os.trans h.bel.out.os, hs.tape.trans h.bel.out.tape, hs.output.trans h.bel.out.output, Nat.le_trans h.bel.size sz, fun k hk => (same k (by omega)).trans (h.bel.out.block k hk)⟩⟩, h.ge, h.nd, fun e he => (h.ok e he).same (same e.b (hL e he))⟩, by omega,
  fun k hk => (h2 k hk).elim (fun q => by have := ho k q; omega) (fun q => by omega)⟩
theorem ni_fk {w : World} {b : Nat} {X : List Nat} (h : Fk w b X) : NI w b := by
 obtain ⟨cs, h1, h2, h3⟩ := h.out
 refine ni_blk h1 ?_
 intro i z hz
 obtain ⟨r, e, _⟩ := h3 i _ hz
 cases e
theorem yd_gr {b B : Nat} {bs O : List Nat} {W W' : World} {X : List Nat} (g : Gr b W W') (h : Fk W b X) (hb : b ∈ bs) (hO : b ∉ O) : Yd bs O B W W' :=
 ⟨g.os, g.tape, g.output, g.size, fun k hk => by
  by_cases e : k = b
  ·subst e; exact .inr ⟨.inl (ni_fk h), hO, .inl hb⟩
  ·exact .inl (g.block k hk e)⟩
structure E4 where
 k : Nat
 a : Nat
 b : Nat
 c : Nat
 d : Nat
def encE (x : E4) : Array Value := #[.int .i64 (x.k : Int), .agg #[.float .f64 x.a, .float .f64 x.b, .float .f64 x.c, .float .f64 x.d]]
structure E4.Ok (X Y : List Nat) (m : Nat) (x : E4) : Prop where
 lt : (x.a < 2 * sgnW ∧ x.b < 2 * sgnW) ∧ (x.c < 2 * sgnW ∧ x.d < 2 * sgnW)
 cl : (cn x.a = nthN X x.k ∧ cn x.b = nthN Y x.k) ∧ (cn x.c = nthN X (m - x.k) ∧ cn x.d = nthN Y (m - x.k))
theorem cellS {ks : List Nat} {B : Nat} {w w' : World} {p : Addr} {v : Value} (h : ∀ k, k < B → k ∉ ks → w'.heap[k]? = w.heap[k]?) (hb : p.block < B) (hn : p.block ∉ ks) (hc : w.cell? p = some v) : w'.cell? p = some v := by
 unfold World.cell? at hc ⊢
 rw [h _ hb hn]; exact hc
def Ends (w : World) (no : List Nat) (lb : Array Value) (X Y : List Nat) (m : Nat) : Prop := ∀ (n l : Nat) (W : World) (ks : List Nat), 1 ≤ n → Bel w W → (∀ k ∈ ks, k ∉ no) →
 SeqB Tryz.prog n l 143 lb encE ks (m - 1) (fun pre x _ => x.k = pre.length + 1 ∧ x.Ok X Y m) (fun zs => zs.length = m - 1) (fun _ => True) W
theorem ends1 {m c c' : Nat} {X Y : List Nat} (w : World) {bz b b' : Nat} (KZ : Blk w bz 46 [.slice (some ⟨b, 0, none⟩) m c, .slice (some ⟨b', 0, none⟩) m c']) (FX : Fz w b X) (FY : Fz w b' Y) (hX : X.length = m) (hY : Y.length = m) (hm : 1 ≤ m) (hm2 : m ≤ 100000) :
  Ends w [bz, b, b'] #[.pointer (some ⟨bz, 0, none⟩)] X Y m := by
 intro n l W ks hn hW hks J Jx _ hJ hJx hY' h0
 have KZ := Ho.mk (KZ.bel hW)
 have FX := Ho.mk (FX.bel hW)
 have FY := Ho.mk (FY.bel hW)
 have n1 : bz ∉ ks := fun q => hks _ q (by simp)
 have n2 : b ∉ ks := fun q => hks _ q (by simp)
 have n3 : b' ∉ ks := fun q => hks _ q (by simp)
 have NK := Ho.mk (And.intro n1 (And.intro n2 n3))
 have HX := Ho.mk hX
 have HYl := Ho.mk hY
 have HY := Ho.mk hY'
 have H0 := Ho.mk h0
 clear hY' h0 n1 n2 n3 hks hW hX hY
 have y0 := KZ.out.cell (i := 0) rfl
 refine callsIn_wide.2 ?_
 go_enter Tryz.func143, Tryz.ntmps143
 refine (wpIn_wide (n := n)).1 ?_
 gi_wp2_with fail
 clear y0
 gi_loopw [4] (fun i wr => ∃ (k : Nat) (pre : List E4) (O : List Nat), i = .int .i64 (k : Int) ∧ Ho (pre.length + 1 = k) ∧ 1 ≤ k ∧ k ≤ m ∧ Ho (J pre O wr) ∧ Ho (Wk ks W wr) ∧ Ho (∀ q ∈ O, W.heap.size ≤ q)) (fun i _ => m - (intOf i).toNat)
 case atStart => exact ⟨1, [], [], rfl, ⟨rfl⟩, by omega, by omega, H0, ⟨Wk.refl _ _⟩, ⟨by simp⟩⟩
 case round =>
  obtain ⟨k, pre, O, rfl, hp, hk1, hk, hj, hw, hO⟩ := hrel
  rcases Nat.lt_or_ge k m with hlt | hge
  ·have KR := Ho.mk (hw.out.blk NK.out.1 KZ.out)
   obtain ⟨cx, kx, fx⟩ := FX.out.out
   obtain ⟨cy, ky, fy⟩ := FY.out.out
   have GX := Ho.mk (show Fz wr b X from ⟨cx, hw.out.blk NK.out.2.1 kx, fx⟩)
   have GY := Ho.mk (show Fz wr b' Y from ⟨cy, hw.out.blk NK.out.2.2 ky, fy⟩)
   clear kx fx ky fy
   obtain ⟨y0, y1⟩ := KR.out.c2
   obtain ⟨r0, x0, l0, c0⟩ := GX.out.at_ (i := k) (by rw [HX.out]; exact hlt)
   obtain ⟨r1, x1, l1, c1⟩ := GY.out.at_ (i := k) (by rw [HYl.out]; exact hlt)
   obtain ⟨r2, x2, l2, c2⟩ := GX.out.at_ (i := m - k) (by rw [HX.out]; omega)
   obtain ⟨r3, x3, l3, c3⟩ := GY.out.at_ (i := m - k) (by rw [HYl.out]; omega)
   have OK := Ho.mk (show (E4.mk k r0 r1 r2 r3).Ok X Y m from ⟨⟨⟨l0, l1⟩, l2, l3⟩, ⟨c0, c1⟩, c2, c3⟩)
   clear l0 l1 l2 l3 c0 c1 c2 c3
   have es : IntKind.i64.wrap ((m : Int) - (k : Int)) = ((m - k : Nat) : Int) := by rw [IntKind.wrap_i64]; omega
   have es2 : m - k < m := by omega
   have JD := Ho.mk (hJ _ _ _ O _ hj.out (St.of_bel (Bel.refl wr).drew _) (fun _ h => h) (fun _ h => .inl h))
   obtain ⟨fn, tmps, assign, body, hy, hR⟩ := HY.out pre O (E4.mk k r0 r1 r2 r3) wr.drew JD.out (by have := hp.out; omega) ⟨hp.out.symm, OK.out⟩ hO.out hw.out.size
   dsimp only [encE] at hy
   have HR := Ho.mk hR
   clear hR
   refine wpIn_wide.2 ?_
   go_upto_region 4 with fail
   refine (wpIn_wide (n := n)).1 ?_
   have BZ := Ho.mk (And.intro KZ.out.lt NK.out.1)
   have BX := Ho.mk (And.intro FX.out.lt NK.out.2.1)
   have BY := Ho.mk (And.intro FY.out.lt NK.out.2.2)
   refine Yi.held_wide (S := fun w' => ∀ k, k < W.heap.size → k ∉ ks → w'.heap[k]? = wr.heap[k]?) (by kernel_rfl) (fun _ _ _ => rfl) (fun hHeld => ?_)
   (try dsimp only at hHeld)
   refine Yi.wt (i := 0) hHeld ?_
   refine Yi.wt (i := 1) hHeld ?_
   refine Yi.wt (i := 2) hHeld ?_
   refine Yi.wl (i := 3) (v := ?_) hHeld (fun w' hSw => ?_) ?_
   rotate_left
   ·(have z0 := cellS hSw BZ.out.1 BZ.out.2 y0; go_simp; try (with_reducible rfl))
   refine Yi.wt (i := 4) hHeld ?_
   refine Yi.wt (i := 5) hHeld ?_
   refine Yi.wl (i := 6) (v := ?_) hHeld (fun w' hSw => ?_) ?_
   rotate_left
   ·(have z0 := cellS hSw BX.out.1 BX.out.2 x0; go_simp; try (with_reducible rfl))
   refine Yi.wt (i := 7) hHeld ?_
   refine Yi.wl (i := 8) (v := ?_) hHeld (fun w' hSw => ?_) ?_
   rotate_left
   ·(have z0 := cellS hSw BZ.out.1 BZ.out.2 y1; go_simp; try (with_reducible rfl))
   refine Yi.wt (i := 9) hHeld ?_
   refine Yi.wt (i := 10) hHeld ?_
   refine Yi.wl (i := 11) (v := ?_) hHeld (fun w' hSw => ?_) ?_
   rotate_left
   ·(have z0 := cellS hSw BY.out.1 BY.out.2 x1; go_simp; try (with_reducible rfl))
   refine Yi.wt (i := 12) hHeld ?_
   refine Yi.wl (i := 13) (v := ?_) hHeld (fun w' hSw => ?_) ?_
   rotate_left
   ·(have z0 := cellS hSw BZ.out.1 BZ.out.2 y0; go_simp; try (with_reducible rfl))
   refine Yi.wt (i := 14) hHeld ?_
   refine Yi.wt (i := 15) hHeld ?_
   refine Yi.wt (i := 16) hHeld ?_
   refine Yi.wt (i := 17) hHeld ?_
   refine Yi.wl (i := 18) (v := ?_) hHeld (fun w' hSw => ?_) ?_
   rotate_left
   ·(have z0 := cellS hSw BX.out.1 BX.out.2 x2; go_simp; try (with_reducible rfl))
   refine Yi.wt (i := 19) hHeld ?_
   refine Yi.wl (i := 20) (v := ?_) hHeld (fun w' hSw => ?_) ?_
   rotate_left
   ·(have z0 := cellS hSw BZ.out.1 BZ.out.2 y1; go_simp; try (with_reducible rfl))
   refine Yi.wt (i := 21) hHeld ?_
   refine Yi.wt (i := 22) hHeld ?_
   refine Yi.wt (i := 23) hHeld ?_
   refine Yi.wt (i := 24) hHeld ?_
   refine Yi.wl (i := 25) (v := ?_) hHeld (fun w' hSw => ?_) ?_
   rotate_left
   ·(have z0 := cellS hSw BY.out.1 BY.out.2 x3; go_simp; try (with_reducible rfl))
   refine Yi.wt (i := 26) hHeld ?_
   try simp only [Act.put, Ow.zS, Ow.zC, Ow.zD]
   refine Yi.wc (i := 27) (fun K hK => ?_)
   refine ⟨fun _ _ => trivial, ?_⟩
   rw [show Fence.wide.round = none from rfl, Oper.semAt_none]
   go_simp
   refine HR.out.mono ?_
   have keepS : ∀ w4, Yd ks O W.heap.size wr.drew w4 → ∀ k, k < W.heap.size → k ∉ ks → w4.heap[k]? = wr.heap[k]? := fun w4 g k h1 h2 => by
    rcases g.block k (Nat.lt_of_lt_of_le h1 hw.out.size) with q | ⟨_, _, q | q⟩
    ·exact q
    ·exact (h2 q).elim
    ·omega
   rintro e w4 (⟨rfl, hJ4, hY4⟩ | ⟨rfl, hJ4, hY4⟩)
   ·have HJ := Ho.mk hJ4
    have HW := Ho.mk ((hw.out.bel (Bel.refl wr).drew).yd hY4)
    have HS := keepS _ hY4
    clear hJ4 hY4 hy keepS
    refine hK.out _ _ HS (fun hHeld => ?_)
    clear hK K HS
    refine Yi.wt (i := 28) hHeld ?_
    refine Yi.wdone (by kernel_rfl) ?_ _
    go_wp2_with fail
    go_roundw
    case rel => exact ⟨k + 1, _, O, rfl, ⟨by have := hp.out; rw [List.length_append, List.length_singleton]; omega⟩, by omega, by omega, HJ, HW, hO⟩
    case measure => simp [intOf]; omega
   ·have HJ := Ho.mk hJ4
    have HS := keepS _ hY4
    clear hJ4 hY4 hy keepS
    refine hK.out _ _ HS (fun hHeld => ?_)
    clear hK K HS
    refine Yi.wt (i := 28) hHeld ?_
    refine Yi.wdone (by kernel_rfl) ?_ _
    go_wp2_with fail
    refine bodyPost_ret (results_none rfl _ _ _) rfl ?_
    exact ⟨⟨_, rfl⟩, .inr ⟨_, O, trivial, HJ.out, hO.out⟩⟩
  ·obtain rfl : k = m := by omega
   gi_wp2
   go_end0
   first | exact ⟨⟨_, rfl⟩, .inl ⟨_, O, by have := hp.out; omega, hj.out, hO.out⟩⟩
theorem dEndsP {A B : Option Addr} {m m' c c' : Nat} (w : World) :
  Calls Tryz.prog 124 #[.agg #[.slice A m c, .slice B m' c']] w
   (fun e w' => e = .returned (.func (.func 143) #[] #[.pointer (some ⟨w.heap.size, 0, none⟩)]) ∧ w' = w.alloc (.cells #[.slice A m c, .slice B m' c'] 46)) := by
 go_enter Tryz.func124, Tryz.ntmps124
 go_wp2
 refine bodyPost_ret (results_tmp rfl _ _ _) rfl ?_
 simp
end Y4
namespace Y1
open Ieee Go Gp Gq Gr G9 U0 W0 W1 W2 M0 M1 M2 M3 Pc
section
variable {α : Type} (O : Ops α)
def binG (w : Nat × Nat) (x0 x1 x2 x3 : α) : α × α :=
 let t := cturn O (O.mul (O.add x1 x3) (O.lit halfW)) (O.mul (O.add (O.neg x0) x2) (O.lit halfW)) (O.lit w.1) (O.lit w.2)
 (O.add (O.mul (O.add x0 x2) (O.lit halfW)) t.1, O.add (O.mul (O.add x1 (O.neg x3)) (O.lit halfW)) t.2)
def packAt (tab : Nat → Nat × Nat) (m : Nat) (z : List α × List α) (i : Nat) : α :=
 if i = 0 then O.add (nthG O z.1 0) (nthG O z.2 0)
 else if i = 1 then O.sub (nthG O z.1 0) (nthG O z.2 0)
 else if i % 2 = 0 then (binG O (tab (i / 2)) (nthG O z.1 (i / 2)) (nthG O z.2 (i / 2)) (nthG O z.1 (m - i / 2)) (nthG O z.2 (m - i / 2))).1
 else (binG O (tab (i / 2)) (nthG O z.1 (i / 2)) (nthG O z.2 (i / 2)) (nthG O z.1 (m - i / 2)) (nthG O z.2 (m - i / 2))).2
end
def rfftZ (p : Nat) (X : List Nat) : List Nat × List Nat := intoN (p - 1) (evenG opsN X, oddG opsN X)
def rfftN (p : Nat) (X : List Nat) : List Nat := (List.range (2 ^ p)).map (packAt opsN (tabW p) (2 ^ (p - 1)) (rfftZ p X))
theorem rfftN_len (p : Nat) (X : List Nat) : (rfftN p X).length = 2 ^ p := by simp [rfftN]
theorem two_half {p : Nat} (h : 1 ≤ p) : 2 ^ p = 2 * 2 ^ (p - 1) := by rw [← two_pow, show p - 1 + 1 = p by omega]
end Y1
namespace Y5
open Ieee Go Go.RowKit Go.Proofs Go.Proofs.YtalbgklfhabnkaaGreatDoor Ow Dt Gp I0 U0 W0 S4 S6 P0 M0 M1 M3 W4 W5 V2 P4 Y3 Yh Y4 Y1 P8 Pc
open Go.Proofs.YtalbgklfhabnkaaGreatDoor.V1 (NI St ni_same ni_loop St.refl St.of_bel blk_keep ni_blk put_st)
open Go.Proofs.YtalbgklfhabnkaaGreatDoor.C6 (leaveAny)
open Go.Proofs.YtalbgklfhabnkaaGreatDoor.Pg (In)
attribute [local go_sem ↓] Go.wp_at_zero Go.wp_at_succ
attribute [local go_sem] Oper.semAt_some
theorem log_pow : ∀ p : Fin 8, logI (2 ^ p.val) = (p.val : Int) := by decide +kernel
theorem logI_pow {n p : Nat} (h : n = 2 ^ p) (hp : p ≤ 7) : logI n = (p : Int) := by subst h; exact log_pow ⟨p, by omega⟩
theorem fk_zero {w : World} {b N : Nat} (K : Blk w b 22 (List.replicate N (.float .f64 0))) : Fk w b (List.replicate N 0) :=
 ⟨_, K, by simp, fun j v hv => by
  rw [List.getElem?_replicate] at hv
  split at hv
  ·rename_i h
   cases hv
   exact ⟨0, rfl, by decide, by simp [nthN, List.getD_eq_getElem?_getD, List.getElem?_replicate, h, cn_zero]⟩
  ·cases hv⟩
def upTo (f : Nat → Nat) (n k : Nat) : List Nat := (List.range n).map fun i => if i < k then f i else 0
theorem upTo_len (f : Nat → Nat) (n k : Nat) : (upTo f n k).length = n := by simp [upTo]
theorem upTo_zero (f : Nat → Nat) (n : Nat) : upTo f n 0 = List.replicate n 0 := by
 apply List.ext_getElem (by simp [upTo])
 intro i h1 h2
 simp [upTo]
theorem upTo_all (f : Nat → Nat) (n : Nat) : upTo f n n = (List.range n).map f := by
 apply List.ext_getElem (by simp [upTo])
 intro i h1 h2
 have : i < n := by simpa [upTo] using h1
 simp [upTo, this]
theorem upTo_two (f : Nat → Nat) {n k : Nat} (h : 2 * k + 1 < n) {a b : Nat} (ha : a = f (2 * k)) (hb : b = f (2 * k + 1)) : ((upTo f n (2 * k)).set (2 * k) a).set (2 * k + 1) b = upTo f n (2 * (k + 1)) := by
 subst ha; subst hb
 apply List.ext_getElem (by simp [upTo])
 intro i h1 h2
 simp only [upTo, List.getElem_set, List.getElem_map, List.getElem_range]
 by_cases e1 : 2 * k + 1 = i
 ·subst e1; rw [if_pos rfl, if_pos (by omega)]
 ·rw [if_neg e1]
  by_cases e2 : 2 * k = i
  ·subst e2; rw [if_pos rfl, if_pos (by omega)]
  ·rw [if_neg e2]
   by_cases h3 : i < 2 * k
   ·rw [if_pos h3, if_pos (by omega)]
   ·rw [if_neg h3, if_neg (by omega)]
def frm (u : Nat → Value) (pz po pp pw pk px : Value) : Act := { tmps := #[u 0, u 1, u 2, u 3, u 4, pz, po, pp, u 8, u 9, u 10, u 11, pw, pk, px, u 15, u 16, u 17, u 18, u 19, u 20, u 21, u 22, u 23, u 24, u 25, u 26, u 27, u 28, u 29, u 30, u 31, u 32, u 33, u 34, u 35, u 36, u 37, u 38, u 39, u 40, u 41, u 42, u 43, u 44, u 45, u 46, u 47, u 48, u 49, u 50, u 51, u 52, u 53, u 54, u 55, u 56, u 57, u 58, u 59, u 60, u 61, u 62, u 63, u 64, u 65, u 66, u 67, u 68, u 69, u 70, u 71, u 72, u 73, u 74, u 75, u 76, u 77, u 78, u 79, u 80, u 81, u 82, u 83, u 84, u 85, u 86, u 87, u 88, u 89, u 90, u 91, u 92, u 93, u 94, u 95, u 96, u 97, u 98, u 99, u 100, u 101, u 102, u 103, u 104, u 105, u 106, u 107, u 108, u 109, u 110, u 111, u 112, u 113, u 114, u 115, u 116, u 117, u 118, u 119, u 120, u 121, u 122, u 123, u 124, u 125, u 126, u 127, u 128, u 129, u 130, u 131, u 132, u 133, u 134, u 135, u 136, u 137, u 138, u 139, u 140], defers := [] }
theorem frm_mk {a : Act} {pz po pp pw pk px : Value} (h : a = frm (fun i => a.tmps.getD i undef) pz po pp pw pk px) : ∃ u, a = frm u pz po pp pw pk px := ⟨_, h⟩
theorem bin_law {wd : Nat × Nat} {xa xb xc xd r1 s1 r2 s2 r3 s3 r4 s4 r5 s5 r6 s6 c5 d5 X0 X1 X2 X3 : Nat} (la : xa < 2 * sgnW) (ld : xd < 2 * sgnW) (ha : cn xa = X0) (hb : cn xb = X1) (hc : cn xc = X2) (hd : cn xd = X3)
  (h1 : cn r1 = fadd (cn xa) (cn xc) ∧ cn s1 = fadd (cn xb) (cn (Op.negFloat .f64 xd))) (h2 : cn r2 = fadd (cn xb) (cn xd) ∧ cn s2 = fadd (cn (Op.negFloat .f64 xa)) (cn xc))
  (h3 : cn r3 = fmul (cn r1) (cn 4602678819172646912) ∧ cn s3 = fmul (cn s1) (cn 4602678819172646912)) (h4 : cn r4 = fmul (cn r2) (cn 4602678819172646912) ∧ cn s4 = fmul (cn s2) (cn 4602678819172646912))
  (hw : cn c5 = wd.1 ∧ cn d5 = wd.2) (h5 : cn r5 = fadd (fmul (cn r4) (cn c5)) (fmul (cn s4) (cn d5)) ∧ cn s5 = fsub (fmul (cn s4) (cn c5)) (fmul (cn r4) (cn d5)))
  (h6 : cn r6 = fadd (cn r3) (cn r5) ∧ cn s6 = fadd (cn s3) (cn s5)) : cn r6 = (binG opsN wd X0 X1 X2 X3).1 ∧ cn s6 = (binG opsN wd X0 X1 X2 X3).2 := by
 have eh : cn 4602678819172646912 = halfW := by decide +kernel
 rw [neg_cn ld] at h1
 rw [neg_cn la] at h2
 rw [eh] at h3 h4
 rw [h6.1, h6.2, h3.1, h3.2, h5.1, h5.2, h4.1, h4.2, h1.1, h1.2, h2.1, h2.2, hw.1, hw.2, ha, hb, hc, hd]
 exact ⟨rfl, rfl⟩
theorem pack_at {p m k : Nat} {Z : List Nat × List Nat} (hk : 1 ≤ k) : packAt opsN (tabW p) m Z (2 * k) = (binG opsN (tabW p k) (nthN Z.1 k) (nthN Z.2 k) (nthN Z.1 (m - k)) (nthN Z.2 (m - k))).1 ∧ packAt opsN (tabW p) m Z (2 * k + 1) = (binG opsN (tabW p k) (nthN Z.1 k) (nthN Z.2 k) (nthN Z.1 (m - k)) (nthN Z.2 (m - k))).2 := by
 unfold packAt
 constructor
 ·rw [if_neg (by omega), if_neg (by omega), if_pos (by omega), show 2 * k / 2 = k by omega]; rfl
 ·rw [if_neg (by omega), if_neg (by omega), if_neg (by omega), show (2 * k + 1) / 2 = k by omega]; rfl
theorem dRfftOk {A : Option Addr} {c p : Nat} {X : List Nat} (w : World) (T : Tab w) (hx : In w (.slice A X.length c) X) (hp : X.length = 2 ^ p) (h1 : 1 ≤ p) (hp7 : p ≤ 7) :
  Calls Tryz.prog 84 #[.slice A X.length c] w fun e w' => ∃ b, e = .returned (.tuple #[.slice (some ⟨b, 0, none⟩) X.length X.length, .int .i64 0]) ∧ Fk w' b (rfftN p X) ∧ w.heap.size ≤ b ∧ Bel w w' := by
 obtain ⟨m, hm⟩ : ∃ m, m = 2 ^ (p - 1) := ⟨_, rfl⟩
 have hn2 : X.length = 2 * m := by rw [hm, ← two_half h1]; exact hp
 have hm1 : 1 ≤ m := by rw [hm]; exact Nat.two_pow_pos _
 have hm0 : 0 < m := hm1
 have hn128 : X.length ≤ 128 := by rw [hp]; exact Nat.le_trans (Nat.pow_le_pow_right (by decide) hp7) (by decide)
 have hm64 : m ≤ 64 := by omega
 have HP := Ho.mk hp
 have HM := Ho.mk hm
 have HN2 := Ho.mk hn2
 have TT := Ho.mk T
 have HX := Ho.mk hx
 have C0 := dLogR (n := X.length) rfl w (by omega) T
 rw [logI_pow hp hp7] at C0
 have C0 := Ho.mk C0
 have C1 := Ho.mk (dEven w hx (by omega))
 have lE : (M2.evenG opsN X).length = m := by rw [M2.evenG_len]; omega
 have lO : (M2.oddG opsN X).length = m := by rw [M2.oddG_len]; omega
 obtain ⟨Ze, hZe⟩ : ∃ Ze, Ze = M2.evenG opsN X := ⟨_, rfl⟩
 obtain ⟨Zo, hZo⟩ : ∃ Zo, Zo = M2.oddG opsN X := ⟨_, rfl⟩
 rw [← hZe] at lE C1
 rw [← hZo] at lO
 have HZ := Ho.mk (And.intro hZe hZo)
 have LE := Ho.mk lE
 have LO := Ho.mk lO
 clear hp hm T hx hZe hZo lE lO hn2
 refine (callsIn_wide (n := 3)).1 ?_
 refine callsIn_of_wp_marks Tryz.func84 rfl trivial ?_ rfl
 simp only [Tryz.ntmps84, List.size_toArray, List.length_cons, List.length_nil, Nat.reduceAdd, Nat.reduceSub, Array.replicate_succ, Array.replicate_zero, List.push_toArray, List.append_toArray, List.nil_append, List.cons_append]
 refine wpIn_wide.2 ?_
 go_wp2_with fail
 (with_reducible refine C0.out.mono ?_); rintro e w0 ⟨rfl, rfl⟩
 clear C0
 go_wp2_with fail
 (with_reducible refine C1.out.mono ?_); rintro e w1 ⟨A1, cE, rfl, g1, b1⟩
 obtain ⟨bE, cq, e, hcE, hcE2, H⟩ := (Hp.nil (Bel.refl w)).rowF b1 (Og.rowF g1.1 g1.2) (by rw [LE.out]; exact hm1)
 rw [LE.out] at e hcE ⊢
 cases e
 replace H := Ho.mk H
 have CE := Ho.mk (And.intro hcE hcE2)
 have C2 := dOdd w1 (HX.out.bel b1) (by omega)
 rw [← HZ.out.2] at C2
 have C2 := Ho.mk C2
 clear C1 g1 b1 hcE hcE2
 go_wp2_with fail
 (with_reducible refine C2.out.mono ?_); rintro e w2 ⟨A1, cO, rfl, g1, b1⟩
 obtain ⟨bO, cq, e, hcO, hcO2, H⟩ := H.out.rowF b1 (Og.rowF g1.1 g1.2) (by rw [LO.out]; exact hm1)
 rw [LO.out] at e hcO ⊢
 cases e
 replace H := Ho.mk H
 have CO := Ho.mk (And.intro hcO hcO2)
 clear C2 g1 b1 hcO hcO2
 go_upto_region 5 with fail
 replace H := Ho.mk (H.out.box [.slice (some ⟨bE, 0, none⟩) m cE, .slice (some ⟨bO, 0, none⟩) m cO] 46)
 generalize w2.alloc (.cells #[.slice (some ⟨bE, 0, none⟩) m cE, .slice (some ⟨bO, 0, none⟩) m cO] 46) = w3 at *
 generalize w2.heap.size = bz at *
 obtain ⟨y0, y1⟩ := (H.out.blk 0 rfl).c2
 have C3 := Ho.mk (dInto (p := p - 1) (N := m) w3 (TT.out.bel H.out.bel) (H.out.row 2 rfl) (H.out.row 1 rfl) (H.out.ne 2 1 rfl rfl) HM.out LE.out LO.out (by omega) CE.out.1 CO.out.1 CE.out.2 CO.out.2)
 go_wp2_with fail
 (with_reducible refine C3.out.mono ?_); rintro e w4 ⟨rfl, f1, f2, G⟩
 replace H := Ho.mk (H.out.gr2 2 1 rfl rfl G (by decide) f1 f2)
 simp only [List.set_cons_zero, List.set_cons_succ] at H
 obtain ⟨Z, hZ⟩ : ∃ Z, Z = intoG opsN (bitsG (p - 1)) (p - 1) (tabW (p - 1)) (Ze, Zo) := ⟨_, rfl⟩
 rw [← hZ] at H
 have ZR := Ho.mk (show Z = rfftZ p X by unfold rfftZ intoN; rw [← HZ.out.1, ← HZ.out.2]; exact hZ)
 have ZL := Ho.mk (show Z.1.length = m ∧ Z.2.length = m by rw [hZ]; have := intoN_len (p := p - 1) (st := (Ze, Zo)) (by rw [← HM.out]; exact LE.out) (by rw [← HM.out]; exact LO.out); rw [← HM.out] at this; exact this)
 clear C3 f1 f2 G hZ y0 y1
 go_wp2_with (at_make; refine wpList_mk _ rfl _ _ 157 rfl 22 (.float .f64 0) 8 Tryz.underlying157 infoF rfl X.length rfl rfl (by omega) (by omega) ?_; intro w5 hk5 hb5 hs5)
 replace H := Ho.mk (H.out.new (e := .whole w4.heap.size (List.replicate X.length 0)) hb5 (fk_zero hk5) (Nat.le_refl _))
 clear hk5 hb5
 generalize w4.heap.size = bo at *
 replace H := Ho.mk (H.out.box [.func (.func 121) #[.slice (some ⟨bo, 0, none⟩) X.length X.length] #[]] 158)
 rw [hs5] at H
 clear hs5
 generalize w5.alloc (.cells #[.func (.func 121) #[.slice (some ⟨bo, 0, none⟩) X.length X.length] #[]] 158) = w6 at *
 have ZL1 := ZL.out.1
 have ZL2 := ZL.out.2
 obtain ⟨y0, y1⟩ := (H.out.blk 2 rfl).c2
 obtain ⟨r0, x0, l0, c0⟩ := (H.out.row 4 rfl).at_ (i := 0) (by omega)
 obtain ⟨r1, x1, l1, c1⟩ := (H.out.row 3 rfl).at_ (i := 0) (by omega)
 have RL := Ho.mk (And.intro (And.intro l0 c0) (And.intro l1 c1))
 have AD := Ho.mk (fun w => P2.dCAdd w RL.out.1.1 (show 0 < 2 * sgnW by decide) RL.out.2.1 (show 0 < 2 * sgnW by decide))
 have SU := Ho.mk (fun w => P2.dCSub w RL.out.1.1 (show 0 < 2 * sgnW by decide) RL.out.2.1 (show 0 < 2 * sgnW by decide))
 clear l0 c0 l1 c1 ZL1 ZL2
 refine then_falseW ?_
 refine wp_region_held_drew (S := fun w' => Bel w6 w') (by kernel_rfl) (Bel.refl _).drew (fun hHeld => ?_)
 (try dsimp only at hHeld)
 refine rt (i := 0) hHeld ?_
 refine rl (i := 1) (v := ?_) hHeld (fun w' hSw => ?_) ?_
 rotate_left
 ·(have z0 := hSw.cell y0; go_simp; try (with_reducible rfl))
 refine rt (i := 2) hHeld ?_
 refine rl (i := 3) (v := ?_) hHeld (fun w' hSw => ?_) ?_
 rotate_left
 ·(have z0 := hSw.cell x0; go_simp; try (with_reducible rfl))
 refine rt (i := 4) hHeld ?_
 refine rl (i := 5) (v := ?_) hHeld (fun w' hSw => ?_) ?_
 rotate_left
 ·(have z0 := hSw.cell y1; go_simp; try (with_reducible rfl))
 refine rt (i := 6) hHeld ?_
 refine rl (i := 7) (v := ?_) hHeld (fun w' hSw => ?_) ?_
 rotate_left
 ·(have z0 := hSw.cell x1; go_simp; try (with_reducible rfl))
 try simp only [Act.put, Ow.zS, Ow.zC, Ow.zD]
 refine rc (i := 8) (fun K hK => ?_)
 go_simp
 go_at_call 122
 (with_reducible refine (AD.out _).mono ?_); rintro e wqa ⟨ra, sa, rfl, la, ca, bqa⟩
 try go_wp2_with fail
 refine hK.out _ _ (Bel.trans hHeld bqa) (fun hHeld => ?_)
 clear hK K
 refine rt (i := 9) hHeld ?_
 refine rt (i := 10) hHeld ?_
 refine rt (i := 11) hHeld ?_
 refine rt (i := 12) hHeld ?_
 refine rt (i := 13) hHeld ?_
 try simp only [Act.put, Ow.zS, Ow.zC, Ow.zD]
 refine wpAnyH_done (by kernel_rfl) ?_ _
 have Ha := Ho.mk (And.intro la.1 ca.1)
 have BQa := Ho.mk ((Bel.refl w6).drew.trans bqa)
 clear la ca hHeld
 have y0 := BQa.out.cell y0
 have y1 := BQa.out.cell y1
 have x0 := BQa.out.cell x0
 have x1 := BQa.out.cell x1
 go_upto_region 9 with fail
 refine then_falseW ?_
 refine wp_region_held_drew (S := fun w' => Bel wqa w') (by kernel_rfl) (Bel.refl _).drew (fun hHeld => ?_)
 (try dsimp only at hHeld)
 refine rt (i := 0) hHeld ?_
 refine rl (i := 1) (v := ?_) hHeld (fun w' hSw => ?_) ?_
 rotate_left
 ·(have z0 := hSw.cell y0; go_simp; try (with_reducible rfl))
 refine rt (i := 2) hHeld ?_
 refine rl (i := 3) (v := ?_) hHeld (fun w' hSw => ?_) ?_
 rotate_left
 ·(have z0 := hSw.cell x0; go_simp; try (with_reducible rfl))
 refine rt (i := 4) hHeld ?_
 refine rl (i := 5) (v := ?_) hHeld (fun w' hSw => ?_) ?_
 rotate_left
 ·(have z0 := hSw.cell y1; go_simp; try (with_reducible rfl))
 refine rt (i := 6) hHeld ?_
 refine rl (i := 7) (v := ?_) hHeld (fun w' hSw => ?_) ?_
 rotate_left
 ·(have z0 := hSw.cell x1; go_simp; try (with_reducible rfl))
 try simp only [Act.put, Ow.zS, Ow.zC, Ow.zD]
 refine rc (i := 8) (fun K hK => ?_)
 go_simp
 go_at_call 123
 (with_reducible refine (SU.out _).mono ?_); rintro e wqb ⟨rb, sb, rfl, lb, cb, bqb⟩
 try go_wp2_with fail
 refine hK.out _ _ (Bel.trans hHeld bqb) (fun hHeld => ?_)
 clear hK K
 refine rt (i := 9) hHeld ?_
 refine rt (i := 10) hHeld ?_
 refine rt (i := 11) hHeld ?_
 refine rt (i := 12) hHeld ?_
 refine rt (i := 13) hHeld ?_
 try simp only [Act.put, Ow.zS, Ow.zC, Ow.zD]
 refine wpAnyH_done (by kernel_rfl) ?_ _
 have Hb := Ho.mk (And.intro lb.1 cb.1)
 have BQb := Ho.mk ((Bel.refl wqa).drew.trans bqb)
 clear lb cb hHeld
 replace H := Ho.mk ((H.out.grow BQa.out).grow BQb.out)
 clear y0 y1 x0 x1 AD SU BQa BQb
 have y0 := (H.out.blk 0 rfl).cell (i := 0) rfl
 have PU := Ho.mk (dPut (n := X.length) (c := X.length) (k := 0) wqb (H.out.whole 1 rfl) (by have := HN2.out; omega) List.length_replicate (by omega) Ha.out.1 Hb.out.1)
 go_wp2_with fail
 (refine PU.out.mono ?_); rintro e w7 ⟨rfl, f1, G⟩
 replace H := Ho.mk (H.out.grW 1 rfl G f1)
 simp only [List.set_cons_zero, List.set_cons_succ] at H
 obtain ⟨pf, hpf⟩ : ∃ pf, pf = packAt opsN (tabW p) m Z := ⟨_, rfl⟩
 have e0 : cn ra = pf (2 * 0) := by rw [hpf, Ha.out.2, RL.out.1.2, RL.out.2.2]; rfl
 have e1 : cn rb = pf (2 * 0 + 1) := by rw [hpf, Hb.out.2, RL.out.1.2, RL.out.2.2]; rfl
 have e2 := upTo_two pf (n := X.length) (k := 0) (by have := HN2.out; omega) e0 e1
 rw [upTo_zero] at e2
 rw [e2] at H
 have HPF := Ho.mk hpf
 have TB := Ho.mk (dTable (q := p) (m := m) (qi := (p : Int)) (mi := (m : Int)) w7 (TT.out.bel H.out.bel) rfl (by omega) rfl (by omega))
 have ed : (X.length : Int).tdiv 2 = (m : Int) := by rw [HN2.out, Int.tdiv_eq_ediv_of_nonneg (by omega)]; omega
 clear f1 G hpf e0 e1 e2 PU y0
 go_wp2_with fail
 (with_reducible refine TB.out.mono ?_); rintro e w8 ⟨b1, b2, rfl, f1, f2, le1, lt2, bt⟩
 replace H := Ho.mk (H.out.comb (Hp.two bt f1 f2 le1 lt2))
 simp only [List.cons_append, List.nil_append] at H
 clear f1 f2 le1 lt2 bt TB
 go_upto_region 12 with fail
 replace H := Ho.mk (H.out.box [.slice (some ⟨b1, 0, none⟩) m m, .slice (some ⟨b2, 0, none⟩) m m] 46)
 generalize w8.alloc (.cells #[.slice (some ⟨b1, 0, none⟩) m m, .slice (some ⟨b2, 0, none⟩) m m] 46) = w9 at *
 generalize w8.heap.size = bw at *
 obtain ⟨y0, y1⟩ := (H.out.blk 5 rfl).c2
 have EN := Ho.mk (dEndsP (A := some ⟨bE, 0, none⟩) (B := some ⟨bO, 0, none⟩) (m := m) (m' := m) (c := cE) (c' := cO) w9)
 go_wp2_with fail
 (with_reducible refine EN.out.mono ?_); rintro e w10 ⟨rfl, rfl⟩
 clear EN y0 y1
 replace H := Ho.mk (H.out.box [.slice (some ⟨bE, 0, none⟩) m cE, .slice (some ⟨bO, 0, none⟩) m cO] 46)
 generalize w9.alloc (.cells #[.slice (some ⟨bE, 0, none⟩) m cE, .slice (some ⟨bO, 0, none⟩) m cO] 46) = w10 at *
 generalize w9.heap.size = bs at *
 go_wp2_with fail
 have HB := Ho.mk H.out.bel
 have HBs := HB.out.size
 refine (wpIn_wide (n := 3)).1 ?_
 refine rangeB (α := E4) (encs := encE) (bs := [bo]) (N := m - 1) (Bd := False) (Px := fun pre x _ => x.k = pre.length + 1 ∧ x.Ok Z.1 Z.2 m) (S := fun zs => zs.length = m - 1) (Sp := fun _ => True)
  (by omega) rfl (fun args w => by rfl) (fun x => by rfl) (by intro k hk; simp at hk; subst hk; have q := H.out.ltI 5 rfl; exact q) ?_
  (fun pre O W => Hp w W ([.blk bs 46 [.slice (some ⟨bE, 0, none⟩) m cE, .slice (some ⟨bO, 0, none⟩) m cO], .blk bw 46 [.slice (some ⟨b1, 0, none⟩) m m, .slice (some ⟨b2, 0, none⟩) m m], .whole b1 ((List.range m).map fun k => (tabW p k).1), .whole b2 ((List.range m).map fun k => (tabW p k).2), .blk (bo + 1) 158 [.func (.func 121) #[.slice (some ⟨bo, 0, none⟩) X.length X.length] #[]], .whole bo (upTo pf X.length (2 * (pre.length + 1))), .blk bz 46 [.slice (some ⟨bE, 0, none⟩) m cE, .slice (some ⟨bO, 0, none⟩) m cO], .row bO Z.2, .row bE Z.1]) ∧ w10.heap.size ≤ W.heap.size ∧ ∀ k ∈ O, w10.heap.size ≤ k ∧ k < W.heap.size) (fun _ _ _ _ => False) (fun h => h.elim) (fun pre => hp_abides (by intro e he; simp at he; rcases he with rfl | rfl | rfl | rfl | rfl | rfl | rfl | rfl | rfl <;> first | (have q := H.out.ltI 0 rfl; exact q) | (have q := H.out.ltI 1 rfl; exact q) | (have q := H.out.ltI 2 rfl; exact q) | (have q := H.out.ltI 3 rfl; exact q) | (have q := H.out.ltI 4 rfl; exact q) | (have q := H.out.ltI 5 rfl; exact q) | (have q := H.out.ltI 6 rfl; exact q) | (have q := H.out.ltI 7 rfl; exact q) | (have q := H.out.ltI 8 rfl; exact q)) HBs) (fun _ _ _ _ _ _ h => h.elim) ?_
  (fun pre x a' W => ∃ kb, (∃ u, a' = frm u (.pointer (some ⟨bz, 0, none⟩)) (.slice (some ⟨bo, 0, none⟩) X.length X.length) (.pointer (some ⟨bo + 1, 0, none⟩)) (.pointer (some ⟨bw, 0, none⟩)) (.int .i64 (x.k : Int)) (.pointer (some ⟨kb, 0, none⟩))) ∧ Blk W kb 162 [.float .f64 x.a, .float .f64 x.b, .float .f64 x.c, .float .f64 x.d] ∧ x.k = pre.length + 1 ∧ x.Ok Z.1 Z.2 m) ?_ ?_ ?_ ?_ ?_
 ·-- the iterator's promise
  intro W hW hBW
  refine ends1 (m := m) (c := cE) (c' := cO) W (H.out.grow hBW |>.blk 0 rfl) ((H.out.grow hBW).row 8 rfl) ((H.out.grow hBW).row 7 rfl) ZL.out.1 ZL.out.2 hm1 (by omega) _ _ W _ (by omega) (Bel.refl W) ?_
  intro k hk
  simp at hk
  have n1 : bo ≠ bs := by have q := H.out.ne 5 0 rfl rfl; exact q
  have n2 : bo ≠ bE := by have q := H.out.ne 5 8 rfl rfl; exact q
  have n3 : bo ≠ bO := by have q := H.out.ne 5 7 rfl rfl; exact q
  have m1 : bs < w10.heap.size := by have q := H.out.ltI 0 rfl; exact q
  have m2 : bE < w10.heap.size := by have q := H.out.ltI 8 rfl; exact q
  have m3 : bO < w10.heap.size := by have q := H.out.ltI 7 rfl; exact q
  simp
  rcases hk with rfl | rfl
  ·exact ⟨n1, n2, n3⟩
  ·omega
 ·exact ⟨H.out, Nat.le_refl _, by simp⟩
 ·-- the loop's record
  rintro pre x a' V r o hr ⟨kb, hu, hk, h3⟩
  refine ⟨kb, hu, blk_keep hk (World.putObj_heap_other ?_), h3⟩
  rintro rfl
  have := hk.out
  rw [hr] at this; simp at this
 ·-- the loop's variables
  rintro l pre O x W K hI hsz hx hK
  simp [encE]
  gi_wp2
  refine hK _ _ ((Bel.refl W).alloc _) ⟨W.heap.size, frm_mk (by rfl), Blk.new W [.float .f64 x.a, .float .f64 x.b, .float .f64 x.c, .float .f64 x.d] _, hx.1, hx.2⟩
 ·-- a round
  rintro l pre O x a' W ⟨hH, hB, hO2⟩ hlen hsz ⟨kb, ⟨u, rfl⟩, hk, hxk, hxo⟩ hO hlO
  obtain ⟨xk, xa, xb, xc, xd⟩ := x
  dsimp only at hk hxk hxo ⊢
  subst hxk
  obtain ⟨⟨⟨la, lb⟩, lc, ld⟩, ⟨ca, cb⟩, cc, cd⟩ := hxo
  dsimp only at la lb lc ld ca cb cc cd
  have HK := Ho.mk hk
  have HH := Ho.mk hH
  have FW := Ho.mk (hH.whole 5 rfl)
  have HA := Ho.mk (And.intro (And.intro la lb) (And.intro lc ld))
  have HC := Ho.mk (And.intro (And.intro ca cb) (And.intro cc cd))
  have HO := Ho.mk hO2
  clear hk hH la lb lc ld ca cb cc cd hO2
  dsimp only [frm]
  refine wpIn_block ?_
  obtain ⟨x0, x1, x2, x3⟩ := (HK.out).c4
  have C1 := Ho.mk (P2.dCAdd W HA.out.1.1 HA.out.1.2 HA.out.2.1 (fng_lt' HA.out.2.2))
  gi_wp2_with fail
  refine ⟨by first | trivial | (intro h; cases h), (CallsIn.inRound l (callsIn_wide.2 C1.out)).mono ?_⟩
  rintro e v1 ⟨r1, s1, rfl, l1, c1, b1⟩
  have H1 := Ho.mk (And.intro l1 c1)
  have B1 := Ho.mk b1
  clear C1 l1 c1 b1
  clear x0 x1 x2 x3
  obtain ⟨x0, x1, x2, x3⟩ := (HK.out.bel B1.out).c4
  have C2 := Ho.mk (P2.dCAdd v1 HA.out.1.2 (fng_lt' HA.out.1.1) HA.out.2.2 HA.out.2.1)
  gi_wp2_with fail
  refine ⟨by first | trivial | (intro h; cases h), (CallsIn.inRound l (callsIn_wide.2 C2.out)).mono ?_⟩
  rintro e v2 ⟨r2, s2, rfl, l2, c2, b2⟩
  have H2 := Ho.mk (And.intro l2 c2)
  have B2 := Ho.mk b2
  clear C2 l2 c2 b2
  clear x0 x1 x2 x3
  have C3 := Ho.mk (P0.dHalf v2 H1.out.1.1 H1.out.1.2)
  gi_wp2_with fail
  refine ⟨by first | trivial | (intro h; cases h), (CallsIn.inRound l (callsIn_wide.2 C3.out)).mono ?_⟩
  rintro e v3 ⟨r3, s3, rfl, l3, c3, b3⟩
  have H3 := Ho.mk (And.intro l3 c3)
  have B3 := Ho.mk b3
  clear C3 l3 c3 b3
  have C4 := Ho.mk (P0.dHalf v3 H2.out.1.1 H2.out.1.2)
  gi_wp2_with fail
  refine ⟨by first | trivial | (intro h; cases h), (CallsIn.inRound l (callsIn_wide.2 C4.out)).mono ?_⟩
  rintro e v4 ⟨r4, s4, rfl, l4, c4, b4⟩
  have H4 := Ho.mk (And.intro l4 c4)
  have B4 := Ho.mk b4
  clear C4 l4 c4 b4
  have BB := Ho.mk (((B1.out.trans B2.out).trans B3.out).trans B4.out)
  replace HH := Ho.mk (HH.out.grow BB.out)
  obtain ⟨y0, y1⟩ := (HH.out.blk 1 rfl).c2
  obtain ⟨c5, x0, cl5, cc5⟩ := (HH.out.whole 2 rfl).at_ (i := pre.length + 1) (by simp; omega)
  obtain ⟨d5, x1, dl5, dc5⟩ := (HH.out.whole 3 rfl).at_ (i := pre.length + 1) (by simp; omega)
  rw [nthN_lt (by simp; omega)] at cc5 dc5
  simp only [List.getElem_map, List.getElem_range] at cc5 dc5
  have HW := Ho.mk (And.intro (And.intro cl5 dl5) (And.intro cc5 dc5))
  have hi1 : 0 ≤ (pre.length : Int) + 1 := by omega
  have hi2 : (pre.length : Int) + 1 < (m : Int) := by omega
  have C5 := Ho.mk (fun w => P2.dCTurn w H4.out.1.1 H4.out.1.2 HW.out.1.1 HW.out.1.2)
  clear cl5 dl5 cc5 dc5
  gi_wp2_with fail
  refine Yi.held_round (S := fun w' => Bel v4 w') (by kernel_rfl) (by intro o ho c e; simp at ho; rcases ho with rfl | rfl | rfl | rfl | rfl | rfl | rfl | rfl | rfl | rfl | rfl | rfl | rfl | rfl | rfl | rfl | rfl | rfl <;> cases e) (by rintro ⟨_, _, h⟩; exact h) (Bel.refl _).drew (fun hHeld => ?_)
  (try dsimp only at hHeld)
  refine rt (i := 0) hHeld ?_
  refine rt (i := 1) hHeld ?_
  refine rt (i := 2) hHeld ?_
  refine rl (i := 3) (v := ?_) hHeld (fun w' hSw => ?_) ?_
  rotate_left
  ·(have z0 := hSw.cell y0; go_simp; try (with_reducible rfl))
  refine rt (i := 4) hHeld ?_
  refine rt (i := 5) hHeld ?_
  refine rl (i := 6) (v := ?_) hHeld (fun w' hSw => ?_) ?_
  rotate_left
  ·(have z0 := hSw.cell x0; go_simp; try (with_reducible rfl))
  refine rt (i := 7) hHeld ?_
  refine rl (i := 8) (v := ?_) hHeld (fun w' hSw => ?_) ?_
  rotate_left
  ·(have z0 := hSw.cell y1; go_simp; try (with_reducible rfl))
  refine rt (i := 9) hHeld ?_
  refine rt (i := 10) hHeld ?_
  refine rl (i := 11) (v := ?_) hHeld (fun w' hSw => ?_) ?_
  rotate_left
  ·(have z0 := hSw.cell x1; go_simp; try (with_reducible rfl))
  try simp only [Act.put, Ow.zS, Ow.zC, Ow.zD]
  refine rc (i := 12) (fun K hK => ?_)
  go_simp
  go_at_call 93
  (with_reducible refine (C5.out _).mono ?_); rintro e v5 ⟨r5, s5, rfl, l5, c5', b5⟩
  try go_wp2_with fail
  refine hK.out _ _ (Bel.trans hHeld b5) (fun hHeld => ?_)
  clear hK K
  refine rt (i := 13) hHeld ?_
  refine rt (i := 14) hHeld ?_
  refine rt (i := 15) hHeld ?_
  refine rt (i := 16) hHeld ?_
  refine rt (i := 17) hHeld ?_
  try simp only [Act.put, Ow.zS, Ow.zC, Ow.zD]
  refine wpAnyH_done (by kernel_rfl) ?_ _
  have H5 := Ho.mk (And.intro l5 c5')
  have B5 := Ho.mk ((Bel.refl v4).drew.trans b5)
  replace HH := Ho.mk (HH.out.grow B5.out)
  clear y0 y1 x0 x1 l5 c5' C5 hHeld b5
  have C6 := Ho.mk (P2.dCAdd v5 H3.out.1.1 H3.out.1.2 H5.out.1.1 H5.out.1.2)
  gi_wp2_with fail
  refine ⟨by first | trivial | (intro h; cases h), (CallsIn.inRound l (callsIn_wide.2 C6.out)).mono ?_⟩
  rintro e v6 ⟨r6, s6, rfl, l6, c6, b6⟩
  have H6 := Ho.mk (And.intro l6 c6)
  replace HH := Ho.mk (HH.out.grow b6)
  replace BB := Ho.mk ((BB.out.trans B5.out).trans b6)
  clear C6 l6 c6 b6
  have y0 := (HH.out.blk 4 rfl).cell (i := 0) rfl
  have C7 := Ho.mk (dPut (n := X.length) (c := X.length) (k := pre.length + 1) v6 (HH.out.whole 5 rfl) (by have := HN2.out; omega) (upTo_len _ _ _) (by omega) H6.out.1.1 H6.out.1.2)
  gi_wp2_with fail
  refine ⟨by first | trivial | (intro h; cases h), (CallsIn.inRound l (callsIn_wide.2 C7.out)).mono ?_⟩
  rintro e v7 ⟨rfl, f7, G7⟩
  clear C7 y0
  gi_wp2_with fail
  have e8 := bin_law (wd := tabW p (pre.length + 1)) HA.out.1.1 HA.out.2.2 HC.out.1.1 HC.out.1.2 HC.out.2.1 HC.out.2.2 H1.out.2 H2.out.2 H3.out.2 H4.out.2 HW.out.2 H5.out.2 H6.out.2
  have e9 := pack_at (p := p) (m := m) (k := pre.length + 1) (Z := Z) (by omega)
  rw [← e9.1, ← e9.2, ← HPF.out] at e8
  have e2 := upTo_two pf (n := X.length) (k := pre.length + 1) (by have := HN2.out; omega) e8.1 e8.2
  have HF := HH.out.grW 5 rfl G7 f7
  simp only [List.set_cons_zero, List.set_cons_succ] at HF
  rw [e2] at HF
  have q5 := H.out.ltI 5 rfl
  have q6 : bo < w10.heap.size := q5
  refine ⟨yd_gr ((BB.out.gr bo).trans G7) FW.out (by simp) (fun q => by have := (HO.out _ q).1; omega), ?_, ?_, ?_⟩
  ·rw [List.length_append, List.length_singleton]; exact HF
  ·have := BB.out.size; have := G7.size; omega
  ·intro k hk
   have := HO.out k hk; have := BB.out.size; have := G7.size
   omega
 ·-- all have come
  rintro zs O W hsz hzs ⟨hH, hB, hO2⟩ hd
  have F := hH.whole 5 rfl
  have G5 := hH.geI 5 rfl
  have G6 : w.heap.size ≤ bo := G5
  have q5 := H.out.ltI 5 rfl
  have q6 : bo < w10.heap.size := q5
  rw [hzs, show 2 * (m - 1 + 1) = X.length by have := HN2.out; omega, upTo_all] at F
  have eR : (List.range X.length).map pf = rfftN p X := by unfold rfftN; rw [HPF.out, ZR.out, HP.out, HM.out]
  rw [eR] at F
  have HF := Ho.mk F
  have HBW := Ho.mk hH.bel
  clear F hH hO2
  go_wp2_with fail
  refine leaveAny hd ?_
  go_ret2
  exact ⟨bo, rfl, ⟨HF.out.out.choose, ⟨(World.putObj_heap_other (by omega)).trans HF.out.out.choose_spec.1.out⟩, HF.out.out.choose_spec.2⟩, G6, ⟨⟨HBW.out.out.os, HBW.out.out.tape, HBW.out.out.output, by have := HBW.out.size; simpa [World.putObj] using this, fun j hj => (World.putObj_heap_other (by have := HB.out.size; omega)).trans (HBW.out.out.block j hj)⟩⟩⟩
 ·rintro c pre O W hsz _ hI; exact hI.elim
end Y5
namespace Y6
open Ieee Go Go.RowKit Go.Proofs Go.Proofs.YtalbgklfhabnkaaGreatDoor Ow Dt Gp I0 U0 W0 S4 S6 P0 M0 M1 M3 W4 W5 V2 P4 Y3 Yh Y4 Y1 P8 Pc Y5
open Go.Proofs.YtalbgklfhabnkaaGreatDoor.V1 (NI St ni_same ni_loop St.refl St.of_bel blk_keep ni_blk put_st)
open Go.Proofs.YtalbgklfhabnkaaGreatDoor.C6 (leaveAny)
open Go.Proofs.YtalbgklfhabnkaaGreatDoor.Pg (In)
attribute [local go_sem ↓] Go.wp_at_zero Go.wp_at_succ
def okR (n : Nat) : Bool := decide (1 ≤ logI n)
def rfR (X : List Nat) : List Nat := if okR X.length then rfftN (Nat.log2 X.length) X else []
def errF (X : List Nat) : Int := if okR X.length then 0 else 2
theorem okR_pow {n : Nat} (h : okR n = true) : n = 2 ^ Nat.log2 n ∧ 1 ≤ Nat.log2 n ∧ n ≤ 1024 := by
 unfold okR at h
 have h := of_decide_eq_true h
 unfold logI at h
 split at h
 ·rename_i q; exact ⟨q.2.1.symm, by omega, q.2.2⟩
 ·omega
theorem logI_bad {n : Nat} (h : okR n = false) : logI n < 1 := by
 unfold okR at h
 have := of_decide_eq_false h
 omega
theorem log_7 {n : Nat} (h : n ≤ 128) (h2 : n = 2 ^ Nat.log2 n) : Nat.log2 n ≤ 7 := by
 apply Nat.le_of_not_lt; intro q
 have : 2 ^ 8 ≤ 2 ^ Nat.log2 n := Nat.pow_le_pow_right (by decide) q
 rw [← h2] at this; omega
def MakesRE (w : World) (Z : List Nat) (z : Int) (e : Ending) (w' : World) : Prop := ∃ A c, e = .returned (.tuple #[.slice A Z.length c, .int .i64 z]) ∧ RowF w' w.heap.size (.slice A Z.length c) Z ∧ Bel w w'
theorem dRfftBad {A : Option Addr} {c n : Nat} (w : World) (T : Tab w) (hn : n ≤ 128) (hb : okR n = false) :
  Calls Tryz.prog 84 #[.slice A n c] w fun e w' => e = .returned (.tuple #[.slice none 0 0, .int .i64 2]) ∧ Bel w w' := by
 have hl := logI_bad hb
 obtain ⟨z, hz⟩ : ∃ z, z = logI n := ⟨_, rfl⟩
 have C0 := dLogR (n := n) rfl w (by omega) T
 rw [← hz] at C0 hl
 have C0 := Ho.mk C0
 clear T hb hz
 go_enter Tryz.func84, Tryz.ntmps84
 go_wp2_with fail
 (with_reducible refine C0.out.mono ?_); rintro e w1 ⟨rfl, rfl⟩
 clear C0
 go_wp2
 go_ret2
 exact ⟨rfl, Bel.refl _⟩
theorem dRfft {A : Option Addr} {c : Nat} {X : List Nat} (w : World) (T : Tab w) (hx : In w (.slice A X.length c) X) (hl : X.length ≤ 128) :
  Calls Tryz.prog 84 #[.slice A X.length c] w (MakesRE w (rfR X) (errF X)) := by
 unfold rfR errF
 cases hb : okR X.length with
 | true =>
  obtain ⟨h1, h2, _⟩ := okR_pow hb
  refine (dRfftOk w T hx h1 h2 (log_7 hl h1)).mono ?_
  rintro e w' ⟨b, rfl, F, hB, g⟩
  have l := rfftN_len (Nat.log2 X.length) X
  rw [← h1] at l
  simp only [if_true]
  refine ⟨some ⟨b, 0, none⟩, X.length, by rw [l], ?_, g⟩
  exact RowF.of F.fz hB (by rw [l]; exact Nat.le_refl _) (by omega)
 | false =>
  refine (dRfftBad w T hl hb).mono ?_
  rintro e w' ⟨rfl, g⟩
  exact ⟨none, 0, rfl, RowF.nil _ _ _ _ (by decide), g⟩
end Y6
namespace Kc
open Ieee Go Go.RowKit Go.Proofs Go.Proofs.YtalbgklfhabnkaaGreatDoor Ow Pl Dp Dt Gp F1 P3 P4 Y6
attribute [local go_sem ↓] Go.wp_at_zero Go.wp_at_succ
theorem dLogE {n : Nat} (w : World) (h : n < 1000) (T : Tab w) : Calls Tryz.prog 276 #[.int .i64 (n : Int)] w fun e w' => e = .returned (.int .i64 (logI n)) ∧ w = w' := by
 have TT := Ho.mk T
 clear T
 obtain ⟨k, hk⟩ : ∃ k : Int, k = (n : Int) := ⟨_, rfl⟩
 by_cases h0 : n = 0
 ·subst h0
  have e : logI 0 = -1 := by decide
  rw [e]
  go_enter Tryz.func276, Tryz.ntmps276
  go_wp2
  go_ret
  exact ⟨rfl, rfl⟩
 ·obtain ⟨f1, f2⟩ := log_fact (n := n) (by omega) h0
  have hk0 : 0 < k := by omega
  have hk1 : k < 1000 := by omega
  by_cases hp : 2 ^ Nat.log2 n = n
  ·have hb : bits .and .i64 k (k - 1) = 0 := by rw [hk]; exact f1.2 hp
   have HE := Ho.mk (show logI n = (Nat.log2 n : Int) by unfold logI; rw [if_pos ⟨h0, hp, by omega⟩])
   have HT := Ho.mk (f2 hp)
   rw [HE.out, ← hk]
   have HK := Ho.mk hk
   clear f1 f2 hp h0 hk
   go_enter Tryz.func276, Tryz.ntmps276
   go_wp2_with (go_at_call 39; (with_reducible refine (E1.tz_callsI _ _ (by omega) (by omega) TT.out).mono ?_); rintro e w' ⟨rfl, rfl⟩)
   go_ret
   refine ⟨?_, rfl⟩
   rw [show k.toNat = n by have := HK.out; omega, HT.out]; rfl
  ·have hb : (bits .and .i64 k (k - 1) != 0) = true := by rw [hk]; exact bne_iff_ne.2 fun e => hp (f1.1 e)
   have HE : logI n = -1 := by unfold logI; rw [if_neg (fun q => hp q.2.1)]
   rw [HE, ← hk]
   clear f1 f2 hp h0 hk HE
   go_enter Tryz.func276, Tryz.ntmps276
   go_wp2
   go_ret
   exact ⟨rfl, rfl⟩
theorem log_7 {n : Nat} (h : n ≤ 130) : -1 ≤ logI n ∧ logI n ≤ 9 := by
 unfold logI
 split
 ·rename_i q
  rcases Nat.lt_or_ge (Nat.log2 n) 10 with c | c
  ·omega
  ·have := Nat.pow_le_pow_right (n := 2) (by omega) c
   rw [q.2.1] at this; omega
 ·omega
theorem dPlainE {n : Nat} (w : World) (h : n ≤ 130) (T : Tab w) : Calls Tryz.prog 275 #[.agg #[.int .i64 9], .int .i64 (n : Int)] w fun e w' => (∃ z, e = .returned (.int .i64 z) ∧ decide (1 ≤ z) = okR n) ∧ Bel w w' := by
 have TT := Ho.mk T
 clear T
 obtain ⟨z, hz⟩ : ∃ z, z = logI n := ⟨_, rfl⟩
 obtain ⟨l1, l2⟩ := log_7 h
 have C := Ho.mk (fun (w : World) (T : Tab w) => dLogE w (show n < 1000 by omega) T)
 rw [← hz] at C l1 l2
 have hok := Ho.mk (show okR n = decide (1 ≤ z) by rw [hz]; rfl)
 rw [hok.out]
 clear hz
 have K := Ho.mk (Blk.new w [.int .i64 9] 201)
 have y0 := K.out.cell (i := 0) rfl
 have B := Ho.mk ((Bel.refl w).alloc (.cells #[.int .i64 9] 201))
 go_enter Tryz.func275, Tryz.ntmps275
 go_wp2_with fail
 (with_reducible refine (C.out _ (TT.out.bel B.out)).mono ?_); rintro e w1 ⟨rfl, rfl⟩
 by_cases h1 : 1 ≤ z
 ·go_wp2
  go_ret
  exact ⟨⟨z, rfl, rfl⟩, B.out⟩
 ·go_wp2
  go_ret
  exact ⟨⟨-1, rfl, by simp [h1]⟩, B.out⟩
def okS (s : Bool) (n : Nat) : Bool := if s then okR (n + 1) else okR (n - 1)
theorem ok_zero : okR 0 = false := by decide
theorem ok_one : okR 1 = false := by decide
theorem dEnds {n : Nat} {s : Bool} (w : World) (h0 : 1 ≤ n) (h : n ≤ 129) (T : Tab w) : Calls Tryz.prog 279 #[.agg #[.int .i64 9, .bool s], .int .i64 (n : Int)] w fun e w' => (∃ z, e = .returned (.int .i64 z) ∧ decide (1 ≤ z) = okS s n) ∧ Bel w w' := by
 have TT := Ho.mk T
 clear T
 have K := Ho.mk (Blk.new w [.int .i64 9, .bool s] 205)
 obtain ⟨y0, y1⟩ := K.out.c2
 have B := Ho.mk ((Bel.refl w).alloc (.cells #[.int .i64 9, .bool s] 205))
 have C := Ho.mk (fun (w : World) (m : Nat) (h : m ≤ 130) (T : Tab w) => dPlainE w h T)
 have Q := Ho.mk (show (n : Int) + 1 = ((n + 1 : Nat) : Int) ∧ (n : Int) - 1 = ((n - 1 : Nat) : Int) by omega)
 cases s with
 | true =>
  go_enter Tryz.func279, Tryz.ntmps279
  go_wp2_with fail
  rw [Q.out.1]
  (with_reducible refine (C.out _ (n + 1) (by omega) (TT.out.bel B.out)).mono ?_); rintro e w1 ⟨⟨z, rfl, hz⟩, b⟩
  go_wp2
  go_ret
  exact ⟨⟨z, rfl, hz⟩, B.out.trans b⟩
 | false =>
  go_enter Tryz.func279, Tryz.ntmps279
  go_wp2_with fail
  rw [Q.out.2]
  (with_reducible refine (C.out _ (n - 1) (by omega) (TT.out.bel B.out)).mono ?_); rintro e w1 ⟨⟨z, rfl, hz⟩, b⟩
  go_wp2
  go_ret
  exact ⟨⟨z, rfl, hz⟩, B.out.trans b⟩
def kS (s : Bool) : Int := if s then 7 else 3
theorem dOfS {s : Bool} (w : World) : Calls Tryz.prog 117 #[.int .i64 (kS s)] w fun e w' => e = .returned (.iface 205 (.agg #[.int .i64 9, .bool s])) ∧ Bel w w' := by
 cases s with
 | true =>
  simp only [kS]
  go_enter Tryz.func117, Tryz.ntmps117
  go_wp2
  go_ret
  exact ⟨rfl, (Bel.refl w).alloc _⟩
 | false =>
  simp only [kS]
  go_enter Tryz.func117, Tryz.ntmps117
  go_wp2
  go_ret
  exact ⟨rfl, (Bel.refl w).alloc _⟩
theorem dFitsE {n : Nat} {s : Bool} (w : World) (h : n ≤ 129) (T : Tab w) : Calls Tryz.prog 83 #[.int .i64 (kS s), .int .i64 (n : Int)] w fun e w' => e = .returned (.bool (okS s n)) ∧ Bel w w' := by
 have TT := Ho.mk T
 clear T
 have C := Ho.mk (dOfS (s := s) w)
 have hm : ∀ w, (method 405 205 (.agg #[.int .i64 9, .bool s]) "overtone/exact.power").run Tryz.prog w = .ok (279, .agg #[.int .i64 9, .bool s]) w := fun _ => by cases s <;> kernel_rfl
 have hq : ∀ w, (binOp .neq 155 (.iface 205 (.agg #[.int .i64 9, .bool s])) .nilIface).run Tryz.prog w = .ok (.bool true) w := fun _ => rfl
 obtain ⟨k, hk⟩ : ∃ k, k = kS s := ⟨_, rfl⟩
 rw [← hk] at C ⊢
 clear hk
 by_cases h0 : n = 0
 ·subst h0
  rw [show okS s 0 = false by cases s; exact ok_zero; exact ok_one]
  go_enter Tryz.func83, Tryz.ntmps83
  go_wp2_with fail
  (with_reducible refine C.out.mono ?_); rintro e w1 ⟨rfl, b⟩
  go_wp2
  go_ret
  exact ⟨rfl, b⟩
 ·have E := Ho.mk (fun (w : World) (T : Tab w) => dEnds (s := s) w (show 1 ≤ n by omega) h T)
  obtain ⟨m, hm2⟩ : ∃ m : Int, m = (n : Int) := ⟨_, rfl⟩
  have h0i : 0 < m := by omega
  have h1i : m < 1048576 := by omega
  rw [← hm2] at E ⊢
  clear hm2 h h0
  go_enter Tryz.func83, Tryz.ntmps83
  go_wp2_with fail
  (with_reducible refine C.out.mono ?_); rintro e w1 ⟨rfl, b⟩
  go_wp2_with fail
  (with_reducible refine (E.out _ (TT.out.bel b)).mono ?_); rintro e w2 ⟨⟨z, rfl, hz⟩, b2⟩
  have HZ := Ho.mk hz
  clear hz
  go_wp2
  go_ret
  exact ⟨by rw [HZ.out]; rfl, b.trans b2⟩
end Kc
namespace Ka
open Ieee Go Go.RowKit Go.Proofs Go.Proofs.YtalbgklfhabnkaaGreatDoor Ow Dt Gp I0 U0 W0 S4 S6 P0 M0 M1 M3 W4 W5 V2 P4 Y3 Yh
open Go.Proofs.YtalbgklfhabnkaaGreatDoor.V1 (NI St ni_same ni_loop St.refl St.of_bel blk_keep ni_blk put_st)
open Go.Proofs.YtalbgklfhabnkaaGreatDoor.C6 (leaveAny)
open Go.Proofs.YtalbgklfhabnkaaGreatDoor.Pg (In)
open Go.Proofs.YtalbgklfhabnkaaGreatDoor.J2 (Oz NP np_zero ni_np)
open Go.Proofs.YtalbgklfhabnkaaGreatDoor.S4 (infoF)
attribute [local go_sem ↓] Go.wp_at_zero Go.wp_at_succ
theorem run_appM {P : Program} (w : World) (t ty e : TypeId) (i : TypeInfo) (z : Value) (sz bytes : Nat) (ht : P.underlying t = some (.slice e)) (hi : P.info? e = some i) (hz : i.zero = some z)
  (hsize : i.size = sz) (hby : i.bytes = bytes) (hzs : z.cells.size = sz) (hsz : 0 < sz) (hzn : NP z.cells.toList)
  (v : Value) (n : Nat) (xs : List Value) (hown : Oz w e sz v n xs)
  (a : Addr) (m c : Nat) (h0 : 0 < m) (news : List Value) (hl : news.length = m * sz) (hnews : ∀ j u, news[j]? = some u → w.cell? (a.add j) = some u) (h1 : ∀ u ∈ news, u.oneCell' = true) (hnp : NP news)
  (h63 : n ≤ 1000000) (h64 : m ≤ 1000000) (hbytes : bytes ≤ 10000) :
  ∃ v' w', (Builtin.append_ #[t, t] ty #[v, .slice (some a) m c]).run P w = .ok v' w' ∧ Oz w' e sz v' (n + m) (xs ++ news) ∧ (w'.os = w.os ∧ w'.tape = w.tape ∧ w'.output = w.output ∧ w.heap.size ≤ w'.heap.size) ∧
   (∀ k, k < w.heap.size → w'.heap[k]? = w.heap[k]? ∨ (v.ownBlock = some k ∧ NI w k)) ∧ (v'.ownBlock = v.ownBlock ∨ v'.ownBlock = some w.heap.size) := by
 subst hsize
 subst hby
 have hb2 : (n + m) * i.bytes ≤ 140737488355328 := Nat.le_trans (Nat.mul_le_mul (show n + m ≤ 2000000 by omega) hbytes) (by decide)
 have hml : n + m ≤ maxLen := by simp only [maxLen]; omega
 have hlen : (xs ++ news).length = (n + m) * i.size := by rw [List.length_append, hown.len, hl, Nat.add_mul]
 have grown : ∀ old, NP xs → Oz (w.drew.alloc (.cells (xs.toArray ++ news.toArray ++ Builtin.zeroCells z.cells (grownCap w (n + m) old e - (n + m))) e)) e i.size (.slice (some ⟨w.heap.size, 0, none⟩) (n + m) (grownCap w (n + m) old e)) (n + m) (xs ++ news) ∧
   ∀ k, k < w.heap.size → (w.drew.alloc (.cells (xs.toArray ++ news.toArray ++ Builtin.zeroCells z.cells (grownCap w (n + m) old e - (n + m))) e)).heap[k]? = w.heap[k]? := by
  intro old hxs
  have hge := grownCap_ge w (n + m) old e
  refine ⟨⟨hlen, .inr ⟨w.heap.size, _, _, rfl, World.alloc_heap_new w.drew _, hge, grownCap_le_maxLen w (n + m) old e hml, ?_, ?_, ?_⟩⟩, fun k hk => Below.heap_alloc w.drew _ _ hk⟩
  ·simp only [Array.size_append, List.size_toArray, size_zeroCells, hzs, hown.len, hl]
   rw [← Nat.add_mul, ← Nat.add_mul]
   congr 1
   omega
  ·simp only [Array.toList_append, List.append_assoc]
   rw [← List.append_assoc]
   exact List.take_left
  ·simp only [Array.toList_append]
   exact (hxs.app hnp).app (np_zero hzn (by omega) _)
 rcases hown.row with ⟨rfl, rfl⟩ | ⟨g, cap, cur, rfl, hg, hnc, hcm, hcs, htake, hnpc⟩
 ·have hx : xs = [] := List.eq_nil_of_length_eq_zero (by simpa using hown.len)
  subst hx
  have hr := run_append_nil (P := P) w t ty e i z ht hi hz a m c news hl hnews h0 (by omega) (by simp at hb2; omega)
  obtain ⟨g1, g2⟩ := grown 0 (fun x hx => by simp at hx)
  simp only [Nat.zero_add, List.nil_append, Array.empty_append] at g1 g2 ⊢
  exact ⟨_, _, hr, g1, ⟨rfl, rfl, rfl, by simp⟩, fun k hk => .inl (g2 k hk), .inr rfl⟩
 ·have hxn : NP xs := fun x hx => hnpc x (List.mem_of_mem_take (by rw [htake]; exact hx))
  by_cases hroom : n + m ≤ cap
  ·have hfit : n * i.size + news.length ≤ cur.size := by
    rw [hl, hcs, ← Nat.add_mul]; exact Nat.mul_le_mul_right _ hroom
   have hr := run_append_room (P := P) w t ty e i ht hi g n cap cur hg a m c news hl hnews h1 hroom hfit
   have e1 : cur.toList.take (n * i.size) = xs := by rw [← hown.len]; exact htake
   refine ⟨_, _, hr, ⟨hlen, .inr ⟨g, cap, _, rfl, setRow_heap w g cur _ e _ hg, hroom, hcm, ?_, ?_, ?_⟩⟩, ⟨rfl, rfl, rfl, by simp [World.setRow]⟩, fun k hk => ?_, .inl rfl⟩
   ·simp only [List.size_toArray, List.length_append, List.length_take, List.length_drop, Array.length_toList]
    omega
   ·simp only [e1]; exact List.take_left
   ·simp only [e1]
    exact (hxn.app hnp).app fun x hx => hnpc x (List.mem_of_mem_drop hx)
   ·by_cases ek : k = g
    ·subst ek; exact .inr ⟨rfl, ni_np hg hnpc⟩
    ·exact .inl (setRow_other w g k _ ek)
  ·have holds : ∀ j u, xs[j]? = some u → w.cell? ((⟨g, 0, none⟩ : Addr).add j) = some u := by
    intro j u hj
    rw [← htake, List.getElem?_take] at hj
    split at hj
    ·rw [Addr.add_lit]
     simp only [World.cell?, hg, Nat.zero_add]
     simpa using hj
    ·cases hj
   have hr := run_append_grow (P := P) w t ty e i z ht hi hz ⟨g, 0, none⟩ n cap xs hown.len holds a m c news hl hnews (by omega) (by omega) (growslice_fits (by omega) hb2)
   obtain ⟨g1, g2⟩ := grown cap hxn
   exact ⟨_, _, hr, g1, ⟨rfl, rfl, rfl, by simp⟩, fun k hk => .inl (g2 k hk), .inr rfl⟩
theorem fc_np {cs : List Value} {X : List Nat} (h : ∀ j u, cs[j]? = some u → Fc u (nthN X j)) : NP cs := fun x hx z e => by
 obtain ⟨j, hj, rfl⟩ := List.getElem_of_mem hx
 obtain ⟨b, e2, _⟩ := h j _ (List.getElem?_eq_getElem hj)
 rw [e2] at e; cases e
theorem Og.lit {w : World} {g : Nat} (K : Blk w g 22 []) : Og w (.slice (some ⟨g, 0, none⟩) 0 0) [] :=
 ⟨[], ⟨rfl, .inr ⟨g, 0, #[], rfl, K.out, Nat.le_refl _, by decide, rfl, rfl, fun x hx => by simp at hx⟩⟩, fun j u h => by simp at h⟩
theorem wp_appR {w : World} {o : Oper} {a : Act} {K : Act → World → Prop} {Q : Exit → Act → World → Prop} (s x : Operand) (ho : o.op = .call { callee := .builtin .append, args := #[s, x], argTypes := #[25, 25] })
  {v u : Value} {Z Y : List Nat} (H : Og w v Z) (hs : a.eval s = v) (hx : a.eval x = u) (hin : In w u Y) (hl : Z.length ≤ 100000) (hl' : Y.length ≤ 100000)
  (h : ∀ A c w', Og w' (.slice A (Z ++ Y).length c) (Z ++ Y) → Ap w w' v (.slice A (Z ++ Y).length c) → K (a.put o.dst (.slice A (Z ++ Y).length c)) w') : o.wp Tryz.prog a w K Q := by
 obtain ⟨A1, c1, rfl, h2, h3, h4, h5⟩ := hin.out
 obtain ⟨i, hi, hzz⟩ := Option.map_eq_some_iff.1 infoF
 have hzz' := hzz
 simp only [Prod.mk.injEq] at hzz
 obtain ⟨hz, hsz, hb⟩ := hzz
 obtain ⟨A0, c0, rfl⟩ := H.slice
 rcases Nat.eq_zero_or_pos Y.length with h0 | hp
 ·obtain rfl := List.length_eq_zero_iff.1 h0
  have hrun : (Builtin.append_ #[25, 25] o.type #[.slice A0 Z.length c0, .slice A1 0 c1]).run Tryz.prog w = .ok (.slice A0 Z.length c0) w := by
   have hzc : Z.length ≤ c0 := by
    rcases A0 with _ | ad
    ·obtain ⟨cs, k1, _⟩ := H.out
     rcases k1.row with ⟨e, e2⟩ | ⟨g, cap, cur, e, _⟩
     ·simp only [Value.slice.injEq] at e; omega
     ·cases e
    ·by_cases q : 0 < Z.length
     ·obtain ⟨g, c', e, l⟩ := H.form q
      cases e; exact l
     ·omega
   cases A1 <;> simp [Builtin.append_, run_underlying Tryz.underlying25, sizeOf, typeInfo, hi, storeCells, Builtin.lenOf, Builtin.firstCells, loadCells, loadCellsFrom, hzc]
   all_goals (cases A0 <;> simp [storeCells])
  have fin := h A0 c0 w (by rw [List.append_nil]; exact H) (by rw [List.append_nil]; exact ⟨rfl, rfl, rfl, Nat.le_refl _, fun _ _ _ => rfl, .inl rfl⟩)
  rw [List.append_nil] at fin
  unfold Oper.wp
  simp [execOp, ho, resolve, invoke, builtin, hs, hx, hrun, Result.andThen]
  exact fin
 ·cases A1 with
  | none => have := h5 rfl; omega
  | some ad =>
   obtain ⟨news, k1, k2, k3⟩ := Fr.news h4
   obtain ⟨cs, h1, hc⟩ := H.out
   obtain ⟨v', w', hr', g1, g2, g3, g4⟩ := run_appM (P := Tryz.prog) w 25 o.type 22 i (.float .f64 0) 1 8 Tryz.underlying25 hi hz hsz hb rfl (by decide) (by intro u hu z e; simp [Value.cells] at hu; subst hu; cases e) _ Z.length cs h1 ad Y.length c1 hp news (by rw [k1, Nat.mul_one]) k2 (fc_one k3) (fc_np k3) (by omega) (by omega) (by omega)
   have hcl := h1.len
   have ho' : Og w' v' (Z ++ Y) := ⟨cs ++ news, by rw [List.length_append]; exact g1, fun j u hj => by
    rw [List.getElem?_append] at hj
    split at hj
    ·rename_i hlt
     have := hc j u hj
     rw [nthN_lt (by omega)] at this
     rw [nthN_lt (by rw [List.length_append]; omega), List.getElem_append_left (by omega)]; exact this
    ·rename_i hge
     have hj2 := (List.getElem?_eq_some_iff.1 hj).1
     have := k3 _ u hj
     rw [nthN_lt (by omega)] at this
     rw [nthN_lt (by rw [List.length_append]; omega), List.getElem_append_right (by omega)]
     have e : j - Z.length = j - cs.length := by omega
     simp only [e]; exact this⟩
   obtain ⟨A', c', e⟩ := ho'.slice
   have hap : Ap w w' (.slice A0 Z.length c0) v' := ⟨g2.1, g2.2.1, g2.2.2.1, g2.2.2.2, fun k hk hn => (g3 k hk).elim id (fun q => (hn q.1).elim), g4⟩
   have fin := h A' c' w' (e ▸ ho') (e ▸ hap)
   rw [← e] at fin
   unfold Oper.wp
   simp [execOp, ho, resolve, invoke, builtin, hs, hx, hr', Result.andThen]
   exact fin
theorem wpList_appR {w : World} {ops : Array Oper} {rest : List Oper} {o : Oper} {a : Act} {Q : Exit → Act → World → Prop} (hgd : o.guard = none) (s x : Operand) (ho : o.op = .call { callee := .builtin .append, args := #[s, x], argTypes := #[25, 25] })
  {v u : Value} {Z Y : List Nat} (H : Og w v Z) (hs : a.eval s = v) (hx : a.eval x = u) (hin : In w u Y) (hl : Z.length ≤ 100000) (hl' : Y.length ≤ 100000)
  (h : ∀ A c w', Og w' (.slice A (Z ++ Y).length c) (Z ++ Y) → Ap w w' v (.slice A (Z ++ Y).length c) → wpList Tryz.prog ops Q rest (a.put o.dst (.slice A (Z ++ Y).length c)) w') :
  wpList Tryz.prog ops Q (o :: rest) a w := wpList_plain hgd fun K hK' => wp_appR s x ho H hs hx hin hl hl' (fun A c w' a b => hK' _ _ (h A c w' a b))
theorem dCloneG {v : Value} {X : List Nat} (w : World) (h : In w v X) (hl : X.length ≤ 100000) : Calls Tryz.prog 101 #[v] w (MakesG w X) := by
 obtain ⟨A, c, rfl, h2, h3, h4, h5⟩ := h.out
 cases A with
 | none =>
  have h0 := h5 rfl
  obtain rfl := List.length_eq_zero_iff.1 h0
  have hnil := fun w => Lib.run_eql_slice_nil (P := Tryz.prog) w 25 22 none 0 c 0 0 Tryz.underlying25
  go_enter Tryz.func101, Tryz.ntmps101
  go_wp2
  go_ret
  exact ⟨none, 0, rfl, ⟨Og.nil _, fun g hg => (by cases hg)⟩, Bel.refl _⟩
 | some ad =>
  have hnil := fun w => Lib.run_eql_slice_nil (P := Tryz.prog) w 25 22 (some ad) X.length c 0 0 Tryz.underlying25
  have K0 := Ho.mk (Blk.new w [] 22)
  have B0 := Ho.mk ((Bel.refl w).alloc (.cells #[] 22))
  have I0 := Ho.mk (h.bel B0.out)
  clear h h2 h3 h4 h5
  go_enter Tryz.func101, Tryz.ntmps101
  go_wp2_with (at_builtin; refine wpList_appR rfl _ _ rfl (Og.lit K0.out) rfl rfl I0.out (by simp) hl ?_; intro A2 c2 w2 ho ha; rw [List.nil_append] at ho ha ⊢; have HO := Ho.mk ho; have HA := Ho.mk ha; clear ho ha)
  go_ret
  exact ⟨A2, c2, rfl, ⟨HO.out, fun g hg => by
   rcases HA.out.own with q | q
   ·rw [q] at hg; cases hg; exact Nat.le_refl _
   ·rw [q] at hg; cases hg; exact B0.out.size⟩, HA.out.bel B0.out (fun g hg => by cases hg; exact Nat.le_refl _)⟩
theorem in_part {w : World} {ad : Addr} {n c c' i m : Nat} {X Y : List Nat} (h : In w (.slice (some ad) n c) X) (hX : X.length = n) (hY : Y.length = m) (hi : i + m ≤ n) (hc : m ≤ c') (hc2 : c' ≤ 9223372036854775807) (e : ∀ j, j < m → nthN Y j = nthN X (i + j)) : In w (.slice (some (ad.add i)) m c') Y := by
 subst hX; subst hY
 obtain ⟨A1, c1, e1, h2, h3, h4, h5⟩ := h.out
 cases e1
 have hmx := h4.max
 refine ⟨some (ad.add i), c', rfl, hc, hc2, ⟨by omega, fun j hj => ?_⟩, fun q => by cases q⟩
 obtain ⟨ad', v, e2, hcell, hf⟩ := h4.cell (i + j) (by omega)
 cases e2
 exact ⟨ad.add i, v, rfl, by rw [add_add]; exact hcell, by rw [e j hj]; exact hf⟩
theorem og_ni {w : World} {g n c : Nat} {Z : List Nat} (h : Og w (.slice (some ⟨g, 0, none⟩) n c) Z) : NI w g := by
 obtain ⟨cs, h1, h2⟩ := h.out
 rcases h1.row with ⟨e, h0⟩ | ⟨g', cap, cur, e, hb, k1, k2, k3, k4, k5⟩
 ·cases e
 ·cases e; exact ni_np hb k5
theorem Og.inn {w : World} {v : Value} {Z : List Nat} (h : Og w v Z) (hl : Z.length ≤ 100000) : In w v Z := Pg.RowF.inn (Og.rowF (B := 0) h (fun _ _ => Nat.zero_le _)) (by omega)
end Ka
namespace Y7
open Ieee Go Go.RowKit Go.Proofs Go.Proofs.YtalbgklfhabnkaaGreatDoor Ow Dt Gp I0 U0 W0 S4 S6 P0 M0 M1 M3 W4 W5 V2 P4 Y3 Yh Y4 Y1 P8 Pc Y5 Y6
open Go.Proofs.YtalbgklfhabnkaaGreatDoor.V1 (NI St ni_same ni_loop St.refl St.of_bel blk_keep ni_blk put_st)
open Go.Proofs.YtalbgklfhabnkaaGreatDoor.C6 (leaveAny)
open Go.Proofs.YtalbgklfhabnkaaGreatDoor.Pg (In)
attribute [local go_sem ↓] Go.wp_at_zero Go.wp_at_succ
def binsRe (X : List Nat) : List Nat := if okR X.length then M2.evenG opsN X ++ [nthN (M2.oddG opsN X) 0] else []
def binsIm (X : List Nat) : List Nat := if okR X.length then (M2.oddG opsN X).set 0 0 ++ [0] else []
end Y7
namespace Pj
open Ieee Go Go.RowKit Go.Proofs Go.Proofs.YtalbgklfhabnkaaGreatDoor Ow Dt Gp I0 U0 W0 S4 S6 P0 M0 M1 M2 M3 P4 P5 P6 P8 W4 W5 W1 W2 Pc Pe Pg
attribute [local go_sem ↓] Go.wp_at_zero Go.wp_at_succ
theorem wp_app_in {w : World} {o : Oper} {a : Act} {K : Act → World → Prop} {Q : Exit → Act → World → Prop} (s x : Operand) (ho : o.op = .call { callee := .builtin .append, args := #[s, x], argTypes := #[25, 25] })
  {g c : Nat} {A : Option Addr} {X : List Nat} (hs : a.eval s = .slice (some ⟨g, 0, none⟩) 0 0) (K0 : Blk w g 22 []) (hx : a.eval x = .slice A X.length c) (hin : In w (.slice A X.length c) X) (hl : X.length ≤ 100000)
  (h : ∀ A' c' w', RowF w' g (.slice A' X.length c') X → Gr g w w' → (X.length = 0 ∨ ∃ b, A' = some ⟨b, 0, none⟩ ∧ (b = g ∨ b = w.heap.size)) → K (a.put o.dst (.slice A' X.length c')) w') : o.wp Tryz.prog a w K Q := by
 obtain ⟨A1, c1, e, h2, h3, h4, h5⟩ := hin.out
 cases e
 rcases Nat.eq_zero_or_pos X.length with h0 | hp
 ·obtain rfl := List.length_eq_zero_iff.1 h0
  have fin := h (some ⟨g, 0, none⟩) 0 w (RowF.nil _ _ _ _ (by decide)) (Gr.refl _ _) (.inl rfl)
  cases A with
  | none =>
   obtain ⟨i, hi, hzz⟩ := Option.map_eq_some_iff.1 infoF
   have hrun : (Builtin.append_ #[25, 25] o.type #[.slice (some ⟨g, 0, none⟩) 0 0, .slice none 0 c]).run Tryz.prog w = .ok (.slice (some ⟨g, 0, none⟩) 0 0) w := by
    simp [Builtin.append_, run_underlying Tryz.underlying25, sizeOf, typeInfo, hi, storeCells, Builtin.lenOf, Builtin.firstCells]
   unfold Oper.wp
   simp [execOp, ho, resolve, invoke, builtin, hs, hx, hrun, Result.andThen]
   exact fin
  | some ad =>
   obtain ⟨i, hi, hzz⟩ := Option.map_eq_some_iff.1 infoF
   simp only [Prod.mk.injEq] at hzz
   obtain ⟨hz, hsz, hb⟩ := hzz
   have hrun : (Builtin.append_ #[25, 25] o.type #[.slice (some ⟨g, 0, none⟩) 0 0, .slice (some ad) 0 c]).run Tryz.prog w = .ok (.slice (some ⟨g, 0, none⟩) 0 0) w := by
    simp [Builtin.append_, run_underlying Tryz.underlying25, sizeOf, typeInfo, hi, storeCells, Builtin.lenOf, Builtin.firstCells, loadCells, loadCellsFrom]
   unfold Oper.wp
   simp [execOp, ho, resolve, invoke, builtin, hs, hx, hrun, Result.andThen]
   exact fin
 ·cases A with
  | none => have := h5 rfl; omega
  | some ad =>
   obtain ⟨cs, k1, k2, k3⟩ := Fr.news h4
   obtain ⟨i, hi, hzz⟩ := Option.map_eq_some_iff.1 infoF
   simp only [Prod.mk.injEq] at hzz
   obtain ⟨hz, hsz, hb⟩ := hzz
   have hown : w.ownsRow g 22 1 (.slice (some ⟨g, 0, none⟩) 0 0) 0 [] := ⟨rfl, .inr ⟨g, 0, #[], rfl, Nat.le_refl _, K0.out, Nat.le_refl _, by decide, rfl, rfl⟩⟩
   refine wp_append_lies w s x 25 ho g 22 i (.float .f64 0) 1 8 Tryz.underlying25 hi hz hsz hb rfl (by decide) _ 0 [] hs hown ad X.length c cs hx (by rw [k1]; omega) k2 (fc_one k3) hp (by simp only [maxLen]; omega) (by omega) (Nat.le_of_lt K0.lt) _ rfl ?_
   intro g' cap w' h6 h7 h8 h9
   rw [Nat.zero_add] at h6 ⊢
   rw [List.nil_append] at h6
   refine h _ _ _ (own_rowF ⟨h6⟩ rfl k3) ⟨h7.os, h7.tape, h7.output, h7.size, fun k hk hne => h7.block k hk (by simp only [Value.ownBlock]; exact fun q => hne (Option.some.inj q))⟩ (.inr ⟨g', rfl, ?_⟩)
   rcases h8 with h8 | h8
   ·simp only [Value.ownBlock] at h8; exact .inl (Option.some.inj h8).symm
   ·exact .inr h8
end Pj
namespace Pk
open Ieee Go Go.RowKit Go.Proofs Go.Proofs.YtalbgklfhabnkaaGreatDoor Ow Dt Gp I0 U0 W0 S4 S6 P0 M0 M1 M2 M3 P4 P5 P6 P8 W4 W5 W1 W2 Pc Pe Pg G1 G3 Pj
attribute [local go_sem ↓] Go.wp_at_zero Go.wp_at_succ
theorem take_succ_eq {X Y : List Nat} {i : Nat} (h : X.take i = Y.take i) (hx : i < X.length) (hy : i < Y.length) (e : nthN X i = nthN Y i) : X.take (i + 1) = Y.take (i + 1) := by
 rw [List.take_add_one, List.take_add_one, h, List.getElem?_eq_getElem hx, List.getElem?_eq_getElem hy]
 rw [nthN_lt hx, nthN_lt hy] at e
 rw [e]
theorem nth_ne {X Y : List Nat} {i : Nat} (h : nthN X i ≠ nthN Y i) : X ≠ Y := fun e => h (by rw [e])
theorem dSameRow {A B : Option Addr} {n m c c' : Nat} {X Y : List Nat} (W0 : World) (hx : Fr W0 A X) (hy : Fr W0 B Y) (hn : X.length = n) (hm : Y.length = m) (hl : n ≤ 100000) (hl' : m ≤ 100000) :
  Calls Tryz.prog 20 #[.slice A n c, .slice B m c'] W0 (fun e w' => e = .returned (.bool (decide (X = Y))) ∧ Bel W0 w') := by
 have FX := Ho.mk hx
 have FY := Ho.mk hy
 have HN := Ho.mk hn
 have HM := Ho.mk hm
 clear hx hy hn hm
 by_cases hnm : n = m
 ·subst hnm
  go_enter Tryz.func20, Tryz.ntmps20
  go_wp2_with fail
  go_loopw [5] (fun v wr => ∃ (i : Nat), i ≤ n ∧ v = .int .i64 i ∧ Ho (X.take i = Y.take i) ∧ Ho (Bel W0 wr)) (fun v _ => n - (intOf v).toNat)
  case atStart => exact ⟨0, Nat.zero_le _, rfl, ⟨by simp⟩, ⟨Bel.refl _⟩⟩
  case round =>
   obtain ⟨i, hi, rfl, HT, HW⟩ := hrel
   rcases Nat.lt_or_ge i n with hlt | hge
   ·obtain ⟨a1, r1, rfl, y1, l1, c1⟩ := FX.out.at_ (i := i) (by rw [HN.out]; exact hlt)
    obtain ⟨a2, r2, rfl, y2, l2, c2⟩ := FY.out.at_ (i := i) (by rw [HM.out]; exact hlt)
    have y1 := HW.out.cell y1
    have y2 := HW.out.cell y2
    have HC := Ho.mk (And.intro c1 c2)
    have HAL := Ho.mk (alike_cn l1 l2)
    clear c1 c2 l1 l2
    by_cases hc : cn r1 = cn r2
    ·have RS : Ho (∀ w, Calls Tryz.prog 47 #[.float .f64 r1, .float .f64 r2] w (Quiet w (.bool true))) := ⟨fun w => by have h := rsame_calls r1 r2 w; rw [HAL.out, decide_eq_true hc] at h; exact h⟩
     have HCC := Ho.mk hc
     clear hc
     go_upto_region 6 with fail
     refine wp_region_held_drew (S := fun w' => Bel wr w') (by kernel_rfl) (Bel.refl _).drew (fun hHeld => ?_)
     (try dsimp only at hHeld)
     generalize wr.drew = wd at *
     refine rt (i := 0) hHeld ?_
     refine rt (i := 1) hHeld ?_
     refine rt (i := 2) hHeld ?_
     refine rl (i := 3) (v := ?_) hHeld (fun w hSw => ?_) ?_
     rotate_left
     ·(have z0 := hSw.cell y1; have z1 := hSw.cell y2; go_simp; try (with_reducible rfl))
     refine rt (i := 4) hHeld ?_
     refine rt (i := 5) hHeld ?_
     refine rt (i := 6) hHeld ?_
     refine rl (i := 7) (v := ?_) hHeld (fun w hSw => ?_) ?_
     rotate_left
     ·(have z0 := hSw.cell y1; have z1 := hSw.cell y2; go_simp; try (with_reducible rfl))
     try simp only [Act.put, Ow.zS, Ow.zC, Ow.zD]
     refine rc (i := 8) (fun K hK => ?_)
     go_simp
     go_at_call 47
     (with_reducible refine (RS.out _).mono ?_); rintro e v1 ⟨rfl, hz⟩
     have bv1 : Bel wd v1 := by rw [hz]; exact Bel.refl _
     clear hz
     try go_wp2_with fail
     refine hK.out _ _ (Bel.trans hHeld bv1) (fun hHeld => ?_)
     clear hK K
     clear bv1
     refine rt (i := 9) hHeld ?_
     try simp only [Act.put, Ow.zS, Ow.zC, Ow.zD]
     refine wpAnyH_done (by kernel_rfl) ?_ _
     have HB := Ho.mk (HW.out.trans hHeld)
     clear hHeld
     go_wp2
     go_roundw
     case rel =>
      exact ⟨i + 1, by omega, by simp, ⟨take_succ_eq HT.out (by rw [HN.out]; exact hlt) (by rw [HM.out]; exact hlt) (by rw [← HC.out.1, ← HC.out.2]; exact HCC.out)⟩, HB⟩
     case measure => simp [intOf]; omega
    ·have RS : Ho (∀ w, Calls Tryz.prog 47 #[.float .f64 r1, .float .f64 r2] w (Quiet w (.bool false))) := ⟨fun w => by have h := rsame_calls r1 r2 w; rw [HAL.out, decide_eq_false hc] at h; exact h⟩
     have HCC := Ho.mk hc
     clear hc
     go_upto_region 6 with fail
     refine wp_region_held_drew (S := fun w' => Bel wr w') (by kernel_rfl) (Bel.refl _).drew (fun hHeld => ?_)
     (try dsimp only at hHeld)
     generalize wr.drew = wd at *
     refine rt (i := 0) hHeld ?_
     refine rt (i := 1) hHeld ?_
     refine rt (i := 2) hHeld ?_
     refine rl (i := 3) (v := ?_) hHeld (fun w hSw => ?_) ?_
     rotate_left
     ·(have z0 := hSw.cell y1; have z1 := hSw.cell y2; go_simp; try (with_reducible rfl))
     refine rt (i := 4) hHeld ?_
     refine rt (i := 5) hHeld ?_
     refine rt (i := 6) hHeld ?_
     refine rl (i := 7) (v := ?_) hHeld (fun w hSw => ?_) ?_
     rotate_left
     ·(have z0 := hSw.cell y1; have z1 := hSw.cell y2; go_simp; try (with_reducible rfl))
     try simp only [Act.put, Ow.zS, Ow.zC, Ow.zD]
     refine rc (i := 8) (fun K hK => ?_)
     go_simp
     go_at_call 47
     (with_reducible refine (RS.out _).mono ?_); rintro e v1 ⟨rfl, hz⟩
     have bv1 : Bel wd v1 := by rw [hz]; exact Bel.refl _
     clear hz
     try go_wp2_with fail
     refine hK.out _ _ (Bel.trans hHeld bv1) (fun hHeld => ?_)
     clear hK K
     clear bv1
     refine rt (i := 9) hHeld ?_
     try simp only [Act.put, Ow.zS, Ow.zC, Ow.zD]
     refine wpAnyH_done (by kernel_rfl) ?_ _
     have HB := Ho.mk (HW.out.trans hHeld)
     clear hHeld
     go_wp2
     go_ret
     exact ⟨by rw [decide_eq_false (nth_ne (i := i) (by rw [← HC.out.1, ← HC.out.2]; exact HCC.out))]; rfl, HB.out⟩
   ·obtain rfl : i = n := by omega
    go_wp2
    go_ret
    refine ⟨?_, HW.out⟩
    have := HT.out
    rw [List.take_of_length_le (by rw [HN.out]; exact Nat.le_refl _), List.take_of_length_le (by rw [HM.out]; exact Nat.le_refl _)] at this
    rw [decide_eq_true this]; rfl
 ·have hne : ¬ (n : Int) = (m : Int) := by omega
  go_enter Tryz.func20, Tryz.ntmps20
  go_wp2
  all_goals first
   | (exfalso; omega)
   | (go_ret; exact ⟨by rw [decide_eq_false (fun e => hnm (by rw [← HN.out, ← HM.out, e]))]; rfl, Bel.refl _⟩)
theorem dSameRowI {u v : Value} {X Y : List Nat} (w : World) (hx : In w u X) (hy : In w v Y) (hl : X.length ≤ 100000) (hl' : Y.length ≤ 100000) :
  Calls Tryz.prog 20 #[u, v] w (fun e w' => e = .returned (.bool (decide (X = Y))) ∧ Bel w w') := by
 obtain ⟨A, c, rfl, _, _, h1, _⟩ := hx.out
 obtain ⟨B, d, rfl, _, _, h2, _⟩ := hy.out
 exact dSameRow w h1 h2 rfl rfl hl hl'
end Pk
namespace Lv
open Ieee Go Go.RowKit Go.Proofs Go.Proofs.YtalbgklfhabnkaaGreatDoor Ow Dt Gp I0 U0 W0 S4 S6 P0 M0 M1 M2 M3 P4 P5 P6 P8 W4 W5 W1 W2 Pc Pe Pg Pj Pk
theorem litRow {w : World} {b n : Nat} {cs : List Value} {X : List Nat} (K : Blk w b 22 cs) (hc : cs = X.map (.float .f64)) (hX : X.all (fun x => decide (x < 2 * sgnW) && (cn x == x)) = true) (hn : X.length = n) (hl : n ≤ 1000) : RowF w b (.slice (some ⟨b, 0, none⟩) n n) X := by
 subst hc; subst hn
 have hx : ∀ x ∈ X, x < 2 * sgnW ∧ cn x = x := fun x h => by
  have := List.all_eq_true.1 hX x h
  simpa using this
 exact RowF.of ⟨_, K, fun j hj => ⟨.float .f64 X[j], by simp [hj], X[j], rfl, (hx _ (List.getElem_mem hj)).1, by rw [nthN_lt hj]; exact (hx _ (List.getElem_mem hj)).2⟩⟩ (Nat.le_refl _) (Nat.le_refl _) (Nat.le_trans hl (by decide))
theorem In.len {w : World} {A : Option Addr} {n c : Nat} {X : List Nat} (h : In w (.slice A n c) X) : n = X.length := by
 obtain ⟨A1, c1, e, _⟩ := h.out
 cases e; rfl
theorem RowF.len {w : World} {B : Nat} {A : Option Addr} {n c : Nat} {X : List Nat} (h : RowF w B (.slice A n c) X) : n = X.length := by
 obtain ⟨A1, c1, e, _⟩ := h.out
 cases e; rfl
theorem inn {w : World} {B : Nat} {v : Value} {X : List Nat} (h : RowF w B v X) (hm : X.length ≤ 100000) : In w v X := RowF.inn h (by omega)
theorem in_nil (w : World) (A : Option Addr) : In w (.slice none 0 0) [] := ⟨none, 0, rfl, Nat.le_refl _, by decide, Fr.nil _ _, fun _ => rfl⟩
end Lv
namespace Pf
open Go Go.ChangeShapes Go.WideShapes Go.ChangeAt Go.RowKit Go.Proofs.YtalbgklfhabnkaaGreatDoor Ow Dt Gp W0 W4 W5 Pg Pd
section
variable {H : Type} {enc : TypeId × Value → H} {P : Program} {w : World} {base : Nat} {spare : Nat → Bool} {held : Bool} {fuel m : Nat} {t : TypeId} {cs : List Value} {x : DataW H × List MemPlace}
theorem trod_float {k : FloatKind} (ht : P.underlying t = some (.float k)) (h : DataW.trod enc P w base spare held fuel t cs = some x) : ∃ n, cs = [.float k n] ∧ x = (.lit (.float k n), []) ∧ (Lit.float k n).wf = true := by
 cases fuel with
 | zero => simp [DataW.trod] at h
 | succ n =>
  unfold DataW.trod at h
  rw [ht] at h
  split at h <;> simp_all
end
theorem wf_lt {b : Nat} (h : (Lit.float .f64 b).wf = true) : b < 2 * sgnW := by
 have : b < 2 ^ 64 := by simpa [Lit.wf] using h
 exact this
theorem cF : Tryz.prog.cellsOf 22 = 1 := by kernel_rfl
theorem bytesF : Tryz.prog.bytesOf 22 = 8 := by kernel_rfl
def clsOf (V : Nat → Value) (n : Nat) : List Nat := (List.range n).map fun i => match V i with
 | .float _ b => cn b
 | _ => 0
theorem open_row {H : Type} {enc : TypeId × Value → H} {W : World} {fuel : Nat} {cs : List Value} {x : DataW H × List MemPlace} (h : DataW.trod enc Tryz.prog W 0 (fun _ => true) true fuel 25 cs = some x)
  (hsz : ∀ n ∈ x.1.weights Tryz.prog 25, n ≤ reachBytes) : ∃ A c X, cs = [.slice A X.length c] ∧ In W (.slice A X.length c) X ∧ X.length ≤ 17592186043904 := by
 rcases Deep.open_slice1 Tryz.underlying25 cF h with ⟨h1, _⟩ | ⟨a, len, cap, m, n, V, D, Pl, rfl, _, hle, hmax, hm, hx, hV⟩
 ·exact ⟨none, 0, [], h1, ⟨none, 0, rfl, Nat.le_refl _, by decide, Fr.nil _ _, fun _ => rfl⟩, by simp⟩
 ·rw [if_pos rfl] at hm
  have hq : cap * 8 ≤ reachBytes := by
   refine hsz (cap * 8) ?_
   rw [congrArg Prod.fst hx]
   simp only [DataW.weights, Tryz.underlying25, bytesF, List.length_map, List.length_range, List.mem_cons]
   left; rw [hm, Nat.add_sub_cancel' hle]
  have hr : cap ≤ 17592186043904 := by
   have e8 : cap * 8 ≤ 17592186043904 * 8 := Nat.le_trans hq (by decide)
   exact Nat.le_of_mul_le_mul_right e8 (by decide)
  have hlen : (clsOf V len).length = len := by simp [clsOf]
  refine ⟨some a, cap, clsOf V len, by rw [hlen], ⟨some a, cap, by rw [hlen], by rw [hlen]; exact hle, hmax, ⟨by rw [hlen]; omega, fun j hj => ?_⟩, fun e => by cases e⟩, by rw [hlen]; omega⟩
  rw [hlen] at hj
  obtain ⟨k1, k2⟩ := hV j (by omega)
  obtain ⟨b, e, _, hw⟩ := trod_float Tryz.underlying22 k2
  simp only [List.cons.injEq, and_true] at e
  refine ⟨a, V j, rfl, k1, b, e, wf_lt hw, ?_⟩
  rw [nthN_lt (by rw [hlen]; exact hj)]
  simp [clsOf, e]
theorem open_floats {H : Type} {enc : TypeId × Value → H} {W : World} {base : Nat} {v : Value} {d : DataW H} {p : List MemPlace} (hval : Value.okWide Tryz.prog W .any base 25 v) (hd : DataW.Trod enc Tryz.prog W 0 (fun _ => true) true 25 v d p)
  (hsz : ∀ n ∈ d.weights Tryz.prog 25, n ≤ reachBytes) : ∃ A c X, v = .slice A X.length c ∧ In W (.slice A X.length c) X := by
 obtain ⟨a, len, cap, rfl⟩ := WideShapes.okWide_slice Tryz.underlying25 hval
 obtain ⟨fuel, hf⟩ := hd
 obtain ⟨A, c, X, e, h, _⟩ := open_row hf hsz
 simp only [Value.cells, List.cons.injEq, and_true] at e
 exact ⟨A, c, X, e, h⟩
end Pf
namespace Z4
open Ieee Go Gp Gq Gr G9 U0 W0 W1 W2 M0 M1 M2 M3 Pc Y1
theorem nth_map (f : Nat → Nat) {n i : Nat} (h : i < n) : nthN ((List.range n).map f) i = f i := nthG_map opsN f h
def revN (X : List Nat) : List Nat := (List.range X.length).map fun i => nthN X (X.length - 1 - i)
def mirN (s : Bool) (X : List Nat) : List Nat := (List.range (2 * (X.length - 1))).map fun i => if i < X.length then nthN X i else if s then fng (nthN X (2 * (X.length - 1) - i)) else nthN X (2 * (X.length - 1) - i)
def padN (X : List Nat) : List Nat := (List.range (X.length + 2)).map fun i => if i = 0 ∨ i = X.length + 1 then 0 else nthN X (i - 1)
theorem revN_len (X : List Nat) : (revN X).length = X.length := by simp [revN]
theorem mirN_len (s : Bool) (X : List Nat) : (mirN s X).length = 2 * (X.length - 1) := by simp [mirN]
theorem padN_len (X : List Nat) : (padN X).length = X.length + 2 := by simp [padN]
def dct1N (p : Nat) (X : List Nat) : List Nat := (List.range (2 ^ p + 1)).map fun i => fmul (nthN (rfftN (p + 1) (mirN false X)) (if i < 2 ^ p then 2 * i else 1)) halfW
def dst1N (p : Nat) (X : List Nat) : List Nat := (List.range (2 ^ p - 1)).map fun i => fmul (nthN (rfftN (p + 1) (mirN true (padN X))) (2 * (i + 1) + 1)) (fng halfW)
theorem dct1N_len (p : Nat) (X : List Nat) : (dct1N p X).length = 2 ^ p + 1 := by simp [dct1N]
theorem dst1N_len (p : Nat) (X : List Nat) : (dst1N p X).length = 2 ^ p - 1 := by simp [dst1N]
end Z4
namespace Kb
open Ieee Go Go.RowKit Go.Proofs Go.Proofs.YtalbgklfhabnkaaGreatDoor Ow Dt Gp I0 U0 W0 S4 S6 P0 M0 M1 M3 W4 W5 V2 P4 Y3 Yh Y4 Ka Y1 Z4
open Go.Proofs.YtalbgklfhabnkaaGreatDoor.V1 (NI St ni_same ni_loop St.refl St.of_bel blk_keep ni_blk put_st)
open Go.Proofs.YtalbgklfhabnkaaGreatDoor.C6 (leaveAny)
open Go.Proofs.YtalbgklfhabnkaaGreatDoor.Pg (In)
open Go.Proofs.YtalbgklfhabnkaaGreatDoor.S4 (infoF)
attribute [local go_sem ↓] Go.wp_at_zero Go.wp_at_succ
theorem idx_rev (X : List Nat) : idx X (steps ((X.length : Int) - 1) (-1) X.length) = revN X := by
 apply List.ext_getElem (by simp [idx, steps, revN])
 intro i h1 h2
 simp only [idx, steps, revN, List.getElem_map, List.getElem_range, List.length_map, List.length_range] at h1 ⊢
 congr 1; omega
theorem dRev {A : Option Addr} {c : Nat} {X : List Nat} (w : World) (hx : In w (.slice A X.length c) X) (hl : X.length ≤ 100000) :
  Calls Tryz.prog 65 #[.slice A X.length c] w (MakesG w (revN X)) := by
 have HX := Ho.mk hx
 have P := Ho.mk (dPlacesW (fr := ((X.length : Int) - 1)) (by' := (-1)) (en := (X.length : Int)) (m := X.length) w (by decide) (by omega) (by omega) (by decide) (fun k hk => by omega) (by omega))
 clear hx
 go_enter Tryz.func65, Tryz.ntmps65
 go_wp2_with fail
 (with_reducible refine P.out.mono ?_); rintro e w1 ⟨lb, rfl, hW, b1⟩
 have HW := Ho.mk hW
 have HB := Ho.mk b1
 clear P hW b1
 have C := Ho.mk (dPicked w1 (HX.out.bel HB.out) hl (fun i hi => by obtain ⟨k, h1, h2⟩ := steps_mem hi; omega) (by rw [steps_len]; omega) HW.out (fun args w => rfl))
 go_wp2_with fail
 (with_reducible refine C.out.mono ?_); rintro e w2 ⟨v, rfl, r, b2⟩
 have R := Ho.mk r
 have B2 := Ho.mk b2
 clear C r b2
 go_wp2
 go_ret
 have r := R.out
 rw [show (List.map (fun i => nthN X i.toNat) (steps ((X.length : Int) - 1) (-1) (X.length))) = (revN X) from idx_rev X] at r
 obtain ⟨A', c', e⟩ := r.1.slice
 subst e
 exact ⟨A', c', rfl, ⟨r.1, fun g hg => Nat.le_trans HB.out.size (r.2 g hg)⟩, HB.out.trans B2.out⟩
theorem dOppP {r : Nat} (w : World) (hr : r < 2 * sgnW) : Calls Tryz.prog 99 #[.float .f64 r] w (TellsC w (fng (cn r))) := by
 have HR := Ho.mk hr
 clear hr
 go_enter Tryz.func99, Tryz.ntmps99
 go_wp2
 go_ret
 exact ⟨_, rfl, fng_lt' HR.out, neg_cn HR.out, Bel.refl _⟩
def chgN (ys : List Int) (X : List Nat) : List Nat := (List.range X.length).map fun (i : Nat) => if (i : Int) ∈ ys then fng (nthN X i) else nthN X i
theorem chgN_len (ys : List Int) (X : List Nat) : (chgN ys X).length = X.length := by simp [chgN]
theorem chgN_nil (X : List Nat) : chgN [] X = X := by
 apply List.ext_getElem (by simp [chgN])
 intro i h1 h2
 simp only [chgN, List.getElem_map, List.getElem_range, List.not_mem_nil, if_false]
 exact nthN_lt h2
theorem chgN_at {ys : List Int} {X : List Nat} {i : Nat} (h : i < X.length) : nthN (chgN ys X) i = if (i : Int) ∈ ys then fng (nthN X i) else nthN X i := nth_map _ h
theorem chgN_set {ys : List Int} {X : List Nat} {i x : Nat} (hi : i < X.length) (hx : x = fng (nthN X i)) : (chgN ys X).set i x = chgN (ys ++ [(i : Int)]) X := by
 subst hx
 apply List.ext_getElem (by simp [chgN])
 intro j h1 h2
 rw [List.getElem_set]
 simp only [chgN, List.getElem_map, List.getElem_range, List.mem_append, List.mem_singleton]
 by_cases e : i = j
 ·subst e; rw [if_pos rfl, if_pos (.inr rfl)]
 ·rw [if_neg e]
  by_cases q : (j : Int) ∈ ys
  ·rw [if_pos q, if_pos (.inl q)]
  ·rw [if_neg q, if_neg (fun z => z.elim q (fun z => e (by omega)))]
structure IC (w : World) (ys : List Int) (b5 b7 B0 : Nat) (v : Value) (X : List Nat) (pre : List Int) (O : List Nat) (W : World) : Prop where
 bel : Bel w W
 big : B0 ≤ W.heap.size
 own : ∀ k ∈ O, B0 ≤ k ∧ k < W.heap.size
 fn : Blk W b5 109 [.func (.func 99) #[] #[]]
 var : Blk W b7 25 [v]
 row : Og W v (chgN pre X)
 tk : pre = ys.take pre.length
theorem not_mem_take {ys : List Int} {k : Nat} {x : Int} (hn : ys.Nodup) (h : ys[k]? = some x) : x ∉ ys.take k := fun hm => by
 obtain ⟨i, hi, e⟩ := List.getElem_of_mem hm
 rw [List.length_take] at hi
 rw [List.getElem_take] at e
 obtain ⟨hk, e2⟩ := List.getElem?_eq_some_iff.1 h
 have := (List.getElem_inj hn (h₀ := by omega) (h₁ := hk)).1 (e.trans e2.symm)
 omega
theorem yd_og {g n c B : Nat} {bs O : List Nat} {W W' : World} {Z : List Nat} (G : Gr g W W') (h : Og W (.slice (some ⟨g, 0, none⟩) n c) Z) (hb : g ∈ bs) (hO : g ∉ O) : Yd bs O B W W' :=
 ⟨G.os, G.tape, G.output, G.size, fun k hk => by
  by_cases e : k = g
  ·subst e; exact .inr ⟨.inl (og_ni h), hO, .inl hb⟩
  ·exact .inl (G.block k hk e)⟩
theorem ic_abides {w : World} {ys : List Int} {b5 b7 B0 : Nat} {v : Value} {X : List Nat} (h0 : w.heap.size ≤ B0) (h5 : b5 < B0) (h7 : b7 < B0) (hv : ∀ g, v.ownBlock = some g → g < B0) (pre : List Int) : V1.Abides fun O W => IC w ys b5 b7 B0 v X pre O W := by
 rintro O A O' C h hs h1 h2
 have sz := hs.size
 have hb := h.big
 have same : ∀ k, k < B0 → C.heap[k]? = A.heap[k]? := fun k hk => (hs.block k (by omega)).elim id (fun q => by have := (h.own k q.1).1; omega)
 exact ⟨⟨⟨hs.os.trans h.bel.out.os, hs.tape.trans h.bel.out.tape, hs.output.trans h.bel.out.output, Nat.le_trans h.bel.size sz, fun k hk => (same k (by omega)).trans (h.bel.out.block k hk)⟩⟩, by omega,
  fun k hk => (h2 k hk).elim (fun q => by have := h.own k q; omega) (fun q => by omega), blk_keep h.fn (same _ h5), blk_keep h.var (same _ h7), h.row.keep fun g hg => same g (hv g hg), h.tk⟩
theorem dChanged {A : Option Addr} {c gf : Nat} {lb : Array Value} {X : List Nat} {ys : List Int} (w : World) (hx : In w (.slice A X.length c) X) (hl : X.length ≤ 100000) (hy : ∀ i ∈ ys, 0 ≤ i ∧ i < X.length) (hys : ys.length ≤ 100000) (hnd : ys.Nodup) (hw : Walks w gf lb ys) (eg : ∀ args w, (callFunc gf args).run Tryz.prog w = .ok (.enter gf args) w) :
  Calls Tryz.prog 97 #[.slice A X.length c, .func (.func gf) #[] lb, .func (.func 99) #[] #[]] w (MakesF w (chgN ys X)) := by
 have HX := Ho.mk hx
 have HW := Ho.mk hw
 have HY := Ho.mk hy
 have HND := Ho.mk hnd
 clear hx hw hy hnd
 refine (callsIn_wide (n := 3)).1 ?_
 refine callsIn_of_wp_marks Tryz.func97 rfl trivial ?_ rfl
 simp only [Tryz.ntmps97, List.size_toArray, List.length_cons, List.length_nil, Nat.reduceAdd, Nat.reduceSub, Array.replicate_succ, Array.replicate_zero, List.push_toArray, List.append_toArray, List.nil_append, List.cons_append]
 refine wpIn_wide.2 ?_
 go_upto_region 1 with fail
 have K5 := Ho.mk (Blk.new w [.func (.func 99) #[] #[]] 109)
 have G0 := Ho.mk ((Bel.refl w).alloc (.cells #[.func (.func 99) #[] #[]] 109))
 have S0 : (w.alloc (.cells #[.func (.func 99) #[] #[]] 109)).heap.size = w.heap.size + 1 := by simp only [World.size_alloc]
 generalize w.alloc (.cells #[.func (.func 99) #[] #[]] 109) = w1 at *
 obtain ⟨b5, hb5⟩ : ∃ b5, b5 = w.heap.size := ⟨_, rfl⟩
 rw [← hb5] at K5 S0 ⊢
 have HB5 := Ho.mk hb5
 clear hb5
 have CC := Ho.mk (dCloneG w1 (HX.out.bel G0.out) hl)
 go_wp2_with fail
 (with_reducible refine CC.out.mono ?_); rintro e w2 ⟨A2, c2, rfl, ⟨g2, o2⟩, q2⟩
 have O2 := Ho.mk (fun g (h : (Value.slice A2 X.length c2).ownBlock = some g) => And.intro (show b5 + 1 ≤ g by rw [← S0]; exact o2 g h) (g2.lt h))
 have S2 := q2.size
 have B2 := (Bel.refl w2).alloc (.cells #[.slice A2 X.length c2] 25)
 have OG := Ho.mk (g2.bel B2)
 replace K5 := Ho.mk ((K5.out.bel q2).bel B2)
 replace G0 := Ho.mk ((G0.out.trans q2).trans B2)
 have K7 := Ho.mk (Blk.new w2 [.slice A2 X.length c2] 25)
 have S3 : (w2.alloc (.cells #[.slice A2 X.length c2] 25)).heap.size = w2.heap.size + 1 := by simp only [World.size_alloc]
 rw [S0] at S2
 clear CC o2 g2 q2 B2 S0
 go_upto_region 2 with fail
 generalize w2.alloc (.cells #[.slice A2 X.length c2] 25) = w3 at *
 generalize w2.heap.size = b7 at *
 have FX := Ho.mk (And.intro HB5.out S3)
 have h5 : w.heap.size ≤ b5 := by rw [HB5.out]; exact Nat.le_refl _
 have h57 : b5 < b7 := by omega
 have hw3 : w.heap.size ≤ b7 + 1 := by omega
 clear HB5
 go_wp2_with fail
 refine (wpIn_wide (n := 3)).1 ?_
 refine rangeB (α := Int) (encs := encI) (bs := (Value.slice A2 X.length c2).ownBlock.toList) (N := ys.length) (Bd := False) (Px := fun pre x _ => ys[pre.length]? = some x) (S := fun zs => zs = ys) (Sp := fun _ => True)
  (by omega) rfl eg (fun x => by rfl) (by intro k hk; simp at hk; have := (O2.out k hk).2; rw [FX.out.2]; omega) ?_
  (fun pre O W => IC w ys b5 b7 (b7 + 1) (.slice A2 X.length c2) X pre O W) (fun _ _ _ _ => False) (fun h => h.elim) (ic_abides hw3 (by omega) (by omega) (fun g hg => by have := (O2.out g hg).2; omega)) (fun _ _ _ _ _ _ h => h.elim) ?_
  (fun pre x a' W => a' = { tmps := #[.slice A X.length c, .func (.func gf) #[] lb, .func (.func 99) #[] #[], undef, undef, .pointer (some ⟨b5, 0, none⟩), .slice none 0 0, .pointer (some ⟨b7, 0, none⟩), .int .i64 x, .slice A X.length c, .slice A2 X.length c2, .func (.func gf) #[] lb, .int .i64 x, undef, undef, undef, undef, undef, undef, undef, undef, undef, undef], defers := [] } ∧ ys[pre.length]? = some x) ?_ ?_ ?_ ?_ ?_
 ·intro W hW hBW
  exact HW.out _ _ W _ (by omega) (G0.out.trans hBW) (fun k hk => by
   simp at hk
   rcases hk with hk | rfl
   ·have := (O2.out k hk).1; omega
   ·have := FX.out.2; omega)
 ·exact ⟨G0.out, by rw [FX.out.2]; exact Nat.le_refl _, by simp, K5.out, K7.out, by rw [chgN_nil]; exact OG.out, by simp⟩
 ·rintro pre x a' A r o hr h; exact h
 ·rintro l pre O x W K hI hsz hx1 hK
  simp [encI]
  gi_wp2
  exact hK _ _ (Bel.refl W) ⟨rfl, hx1⟩
 ·-- a round
  rintro l pre O x a' W hI hlen hsz ⟨rfl, hx1⟩ hO hlO
  obtain ⟨hx0, hxl⟩ := HY.out x (List.mem_of_getElem? hx1)
  have hnot := not_mem_take HND.out hx1
  rw [← hI.tk] at hnot
  have hR := hI.row
  obtain ⟨g, c', e, _⟩ := hR.form (by rw [chgN_len]; omega)
  rw [chgN_len] at e
  simp only [Value.slice.injEq] at e
  obtain ⟨rfl, _, rfl⟩ := e
  obtain ⟨r, y1, l1, c1⟩ := hR.fz.at_ (i := x.toNat) (by rw [chgN_len]; omega)
  rw [chgN_at (by omega), show ((x.toNat : Nat) : Int) = x by omega, if_neg hnot] at c1
  have OP := Ho.mk (fun w => dOppP w l1)
  have y5 := hI.fn.cell (i := 0) rfl
  have y7 := hI.var.cell (i := 0) rfl
  have zx : x = (x.toNat : Int) := by omega
  have HI := Ho.mk hI
  have C1 := Ho.mk c1
  have HX1 := Ho.mk hx1
  have HR := Ho.mk hR
  clear hI hR hx1 c1 l1 hnot
  generalize x.toNat = xn at *
  subst zx
  gi_wp2_with fail
  refine Yi.late_round 9 (S := fun w' => Bel W w') (by kernel_rfl) (by intro o ho c e; simp at ho; rcases ho with rfl | rfl | rfl | rfl | rfl | rfl | rfl | rfl | rfl | rfl <;> cases e) (by rintro ⟨_, _, h⟩; exact h) (Bel.refl _).drew (fun hHeld => ?_)
  (try dsimp only at hHeld)
  refine I7.kl (i := 0) (v := ?_) hHeld (fun w' hSw => ?_) ?_
  rotate_left
  ·(have z0 := hSw.cell y7; go_simp; try (with_reducible rfl))
  refine I7.kt (i := 1) hHeld ?_
  refine I7.kl (i := 2) (v := ?_) hHeld (fun w' hSw => ?_) ?_
  rotate_left
  ·(have z0 := hSw.cell y5; go_simp; try (with_reducible rfl))
  refine I7.kl (i := 3) (v := ?_) hHeld (fun w' hSw => ?_) ?_
  rotate_left
  ·(have z0 := hSw.cell y7; go_simp; try (with_reducible rfl))
  refine I7.kt (i := 4) hHeld ?_
  refine I7.kt (i := 5) hHeld ?_
  refine I7.kl (i := 6) (v := ?_) hHeld (fun w' hSw => ?_) ?_
  rotate_left
  ·(have z0 := hSw.cell y1; go_simp; try (with_reducible rfl))
  try simp only [Act.put, Ow.zS, Ow.zC, Ow.zD]
  refine I7.kc (i := 7) (fun K hK => ?_)
  go_simp
  go_at_call 99
  (with_reducible refine (OP.out _).mono ?_); rintro e w8 ⟨r8, rfl, l8, c8, q8⟩
  try go_wp2_with fail
  refine hK.out _ _ (Bel.trans hHeld q8) (fun hHeld => ?_)
  clear hK K
  refine I7.kt (i := 8) hHeld ?_
  try simp only [Act.put, Ow.zS, Ow.zC, Ow.zD]
  have OG8 := Ho.mk (HR.out.bel hHeld)
  have y9 := hHeld.cell y1
  have x9 := OG8.out.fz.free xn
  refine I7.ke (i := 9) (fun K hK => ?_)
  go_simp
  refine hK.out _ _ ?_
  clear hK K
  refine wpAny_done (by kernel_rfl) ?_ _
  have G8 : Gr g W (w8.setCell ⟨g, xn, none⟩ (.float .f64 r8)) := (hHeld.gr g).set xn _
  have o2 := O2.out g rfl
  have hI := HI.out
  have hf := FX.out.2
  refine ⟨yd_og G8 HR.out (by simp [Value.ownBlock]) (fun q => by have := hO g q; omega), ?_⟩
  refine ⟨G8.bel hI.bel (by omega), by have := G8.size; have := hI.big; omega, fun k hk => ⟨(hI.own k hk).1, Nat.lt_of_lt_of_le (hI.own k hk).2 G8.size⟩, G8.blk hI.fn (by omega), G8.blk hI.var (by omega), ?_, ?_⟩
  ·have := (OG8.out).setF xn l8 (x := fng (nthN X xn)) (by rw [c8, C1.out])
   rw [chgN_set (by omega) rfl] at this; exact this
  ·rw [List.length_append, List.length_singleton, List.take_add_one, ← hI.tk, HX1.out]; rfl
 ·-- all have come
  rintro zs O W hsz rfl hI hd
  have y7 := hI.var.cell (i := 0) rfl
  have HI := Ho.mk hI
  clear hI
  go_wp2_with fail
  refine leaveAny hd ?_
  go_ret
  have hI := HI.out
  have hf := FX.out.2
  refine ⟨A2, c2, by rw [chgN_len]; rfl, ?_, ?_⟩
  ·rw [chgN_len]
   exact Og.rowF (hI.row.keep fun g hg => World.putObj_heap_other (by have := (O2.out g hg).2; omega)) (fun g hg => by have := (O2.out g hg).1; omega)
  ·exact ⟨⟨hI.bel.out.os, hI.bel.out.tape, hI.bel.out.output, by have := hI.bel.size; simpa [World.putObj] using this, fun j hj => (World.putObj_heap_other (by omega)).trans (hI.bel.out.block j hj)⟩⟩
 ·rintro c pre O W hsz _ hI; exact hI.elim
theorem steps_nodup {fr by' : Int} {m : Nat} (h : by' ≠ 0) : (steps fr by' m).Nodup := by
 rw [List.nodup_iff_pairwise_ne, List.pairwise_iff_getElem]
 intro i j hi hj hij
 simp only [steps, List.length_map, List.length_range] at hi hj
 simp only [steps, List.getElem_map, List.getElem_range]
 intro e
 have e2 : (i : Int) * by' = (j : Int) * by' := by omega
 have := Int.eq_of_mul_eq_mul_right h e2
 omega
theorem chg_all (X : List Nat) : chgN (steps 0 1 X.length) X = X.map fng := by
 apply List.ext_getElem (by simp [chgN])
 intro i h1 h2
 rw [chgN_len] at h1
 simp only [chgN, List.getElem_map, List.getElem_range]
 rw [if_pos, nthN_lt h1]
 simp only [steps, List.mem_map, List.mem_range]
 exact ⟨i, h1, by omega⟩
end Kb
namespace Kd
open Ieee Go Go.RowKit Go.Proofs Go.Proofs.YtalbgklfhabnkaaGreatDoor Ow Dt Gp I0 U0 W0 S4 S6 P0 M0 M1 M3 W4 W5 V2 P4 Y3 Yh Y4 Ka Kb Y1 Z4
open Go.Proofs.YtalbgklfhabnkaaGreatDoor.Pg (In)
open Go.Proofs.YtalbgklfhabnkaaGreatDoor.S4 (infoF)
attribute [local go_sem ↓] Go.wp_at_zero Go.wp_at_succ
theorem mir_eq {X M : List Nat} {n : Nat} (hX : X.length = n) (hn : 2 < n) (lM : M.length = n - 2) (eM : ∀ j, j < n - 2 → nthN M j = nthN X (1 + j)) : X ++ revN M = mirN false X ∧ X ++ (revN M).map fng = mirN true X := by
 have rv : ∀ i, i < n - 2 → nthN (revN M) i = nthN X (n - 2 - i) := fun i hi => by
  rw [show nthN (revN M) i = nthN M (M.length - 1 - i) from nth_map _ (by omega), eM _ (by omega)]
  congr 1; omega
 constructor
 ·refine List.ext_getElem (by rw [List.length_append, revN_len, mirN_len]; omega) fun i h1 h2 => ?_
  rw [mirN_len] at h2
  simp only [mirN, List.getElem_map, List.getElem_range, Bool.false_eq_true, if_false]
  rw [List.getElem_append]
  split
  ·exact (nthN_lt (by omega)).symm
  ·have := rv (i - X.length) (by omega)
   rw [nthN_lt (by rw [revN_len]; omega)] at this
   rw [this]; congr 1; omega
 ·refine List.ext_getElem (by rw [List.length_append, List.length_map, revN_len, mirN_len]; omega) fun i h1 h2 => ?_
  rw [mirN_len] at h2
  simp only [mirN, List.getElem_map, List.getElem_range, if_true]
  rw [List.getElem_append]
  split
  ·exact (nthN_lt (by omega)).symm
  ·have := rv (i - X.length) (by omega)
   rw [nthN_lt (by rw [revN_len]; omega)] at this
   rw [List.getElem_map, this]; congr 2; omega
theorem dMirror {ad : Addr} {c n : Nat} {X : List Nat} {s : Bool} (w : World) (hx : In w (.slice (some ad) n c) X) (hX : X.length = n) (hn : 2 < n) (hl : n ≤ 1000) (hc : n ≤ c) (hc2 : c ≤ 9223372036854775807) :
  Calls Tryz.prog 255 #[.slice (some ad) n c, .bool s] w (MakesF w (mirN s X)) := by
 obtain ⟨M, hM⟩ : ∃ M, M = (X.drop 1).take (n - 2) := ⟨_, rfl⟩
 have lM : M.length = n - 2 := by rw [hM, List.length_take, List.length_drop]; omega
 have eM : ∀ j, j < n - 2 → nthN M j = nthN X (1 + j) := fun j hj => by
  rw [nthN_lt (by omega), nthN_lt (by omega)]; simp only [hM, List.getElem_take, List.getElem_drop]
 have IM := in_part (c' := c - 1) (i := 1) hx hX lM (by omega) (by omega) (by omega) eM
 obtain ⟨e1, e2⟩ := mir_eq hX hn lM eM
 obtain ⟨R, hR⟩ : ∃ R, R = revN M := ⟨_, rfl⟩
 have lR : R.length = n - 2 := by rw [hR, revN_len, lM]
 have C1 := dRev w (lM ▸ IM) (by omega)
 rw [lM, ← hR] at C1
 rw [← hR] at e1 e2
 have C1 : Ho (Calls Tryz.prog 65 #[.slice (some { block := ad.block, off := ad.off + 1 }) (n - 2) (c - 1)] w (MakesG w R)) := ⟨C1⟩
 have HX := Ho.mk hx
 have LR := Ho.mk lR
 have LX := Ho.mk hX
 have CX := Ho.mk (fun w (h : In w (.slice (some ad) n c) X) => dCloneG w h (by omega : X.length ≤ 100000))
 have hn1 : (2 : Int) < (n : Int) := by omega
 have f1 : (1 : Int) ≤ (n : Int) - 1 := by omega
 have f2 : (n : Int) - 1 ≤ (c : Int) := by omega
 have s1 : ((n : Int) - 1 - 1).toNat = n - 2 := by omega
 have s2 : ((n : Int) - 1).toNat = n - 1 := by omega
 have s3 : n - 1 - 1 = n - 2 := by omega
 have hcm : ¬ c = 1 := by omega
 have LN := Ho.mk (show n - 2 ≤ 1000 ∧ n ≤ 1000 by omega)
 clear hx hX hM lM eM IM hR lR
 cases s with
 | false =>
  have E := Ho.mk e1
  clear e1 e2
  go_enter Tryz.func255, Tryz.ntmps255
  go_wp2_with fail
  (with_reducible refine C1.out.mono ?_); rintro e w1 ⟨A1, c1, rfl, ⟨g1, o1⟩, b1⟩
  have I1 := Ho.mk (Og.inn g1 (by rw [LR.out]; have := LN.out.1; omega))
  have B1 := Ho.mk b1
  have C2 := Ho.mk (CX.out w1 (HX.out.bel b1))
  clear C1 g1 o1 b1
  go_wp2_with fail
  (with_reducible refine C2.out.mono ?_); rintro e w2 ⟨A2, c2, rfl, ⟨g2, o2⟩, b2⟩
  have G2 := Ho.mk g2
  have O2 := Ho.mk o2
  replace I1 := Ho.mk (I1.out.bel b2)
  have B2 := Ho.mk b2
  clear C2 g2 o2 b2
  go_wp2_with (at_builtin; refine wpList_appR rfl _ _ rfl G2.out rfl rfl I1.out (by rw [LX.out]; have := LN.out.2; omega) (by rw [LR.out]; have := LN.out.1; omega) ?_; intro A4 c4 w4 ho ha; rw [E.out] at ho ha ⊢; have HO4 := Ho.mk ho; have HA4 := Ho.mk ha; clear ho ha)
  go_ret
  exact ⟨A4, c4, rfl, Og.rowF HO4.out (fun g hg => by
   rcases HA4.out.own with q | q
   ·rw [q] at hg; exact Nat.le_trans B1.out.size (O2.out g hg)
   ·rw [q] at hg; cases hg; exact (B1.out.trans B2.out).size), HA4.out.bel (B1.out.trans B2.out) (fun g hg => Nat.le_trans B1.out.size (O2.out g hg))⟩
 | true =>
  obtain ⟨F, hF⟩ : ∃ F, F = R.map fng := ⟨_, rfl⟩
  rw [← hF] at e2
  have E := Ho.mk e2
  have CA := Ho.mk (show chgN (steps 0 1 R.length) R = F by rw [chg_all, hF])
  have LF := Ho.mk (show F.length ≤ 1000 by rw [hF, List.length_map, LR.out]; exact LN.out.1)
  clear e1 e2 hF
  go_enter Tryz.func255, Tryz.ntmps255
  go_wp2_with fail
  (with_reducible refine C1.out.mono ?_); rintro e w1 ⟨A1, c1, rfl, ⟨g1, o1⟩, b1⟩
  have I1 := Ho.mk (Og.inn g1 (by rw [LR.out]; have := LN.out.1; omega))
  have B1 := Ho.mk b1
  have P := Ho.mk (dPlacesW (fr := 0) (by' := 1) (en := (R.length : Int)) (m := R.length) w1 (by decide) (by omega) (by rw [LR.out]; have := LN.out.1; omega) (by decide) (fun k hk => by omega) (by omega))
  clear C1 g1 o1 b1
  go_wp2_with fail
  (with_reducible refine P.out.mono ?_); rintro e w2 ⟨lb, rfl, hW, b2⟩
  have C := dChanged w2 (I1.out.bel b2) (by rw [LR.out]; have := LN.out.1; omega) (fun i hi => by obtain ⟨k, h1, h2⟩ := steps_mem hi; omega) (by rw [steps_len, LR.out]; have := LN.out.1; omega) (steps_nodup (by decide)) hW (fun args w => rfl)
  rw [CA.out] at C
  have C := Ho.mk C
  replace B1 := Ho.mk (B1.out.trans b2)
  clear P hW b2 I1
  go_wp2_with fail
  (with_reducible refine C.out.mono ?_); rintro e w3 ⟨A3, c3, rfl, r3, b3⟩
  have I3 := Ho.mk (Pg.RowF.inn r3 (by have := LF.out; omega))
  replace B1 := Ho.mk (B1.out.trans b3)
  have C2 := Ho.mk (CX.out w3 (HX.out.bel B1.out))
  clear C r3 b3
  go_wp2_with fail
  (with_reducible refine C2.out.mono ?_); rintro e w4 ⟨A2, c2, rfl, ⟨g2, o2⟩, b2⟩
  have G2 := Ho.mk g2
  have O2 := Ho.mk o2
  replace I3 := Ho.mk (I3.out.bel b2)
  have B2 := Ho.mk b2
  clear C2 g2 o2 b2
  go_wp2_with (at_builtin; refine wpList_appR rfl _ _ rfl G2.out rfl rfl I3.out (by rw [LX.out]; have := LN.out.2; omega) (by have := LF.out; omega) ?_; intro A4 c4 w5 ho ha; rw [E.out] at ho ha ⊢; have HO4 := Ho.mk ho; have HA4 := Ho.mk ha; clear ho ha)
  go_ret
  exact ⟨A4, c4, rfl, Og.rowF HO4.out (fun g hg => by
   rcases HA4.out.own with q | q
   ·rw [q] at hg; exact Nat.le_trans B1.out.size (O2.out g hg)
   ·rw [q] at hg; cases hg; exact (B1.out.trans B2.out).size), HA4.out.bel (B1.out.trans B2.out) (fun g hg => Nat.le_trans B1.out.size (O2.out g hg))⟩
end Kd
namespace Ke
open Ieee Go Go.RowKit Go.Proofs Go.Proofs.YtalbgklfhabnkaaGreatDoor Ow Dt Gp I0 U0 W0 S4 S6 P0 M0 M1 M3 W4 W5 V2 P4 Y3 Yh Y4 Ka Kb Kd Y1 Z4
open Go.Proofs.YtalbgklfhabnkaaGreatDoor.Pg (In)
open Go.Proofs.YtalbgklfhabnkaaGreatDoor.S4 (infoF)
attribute [local go_sem ↓] Go.wp_at_zero Go.wp_at_succ
theorem dMirC {ad : Addr} {c n : Nat} {X : List Nat} (w : World) (hx : In w (.slice (some ad) n c) X) (hX : X.length = n) (hn : 2 < n) (hl : n ≤ 1000) (hc : n ≤ c) (hc2 : c ≤ 9223372036854775807) :
  Calls Tryz.prog 253 #[.agg #[], .slice (some ad) n c] w (MakesF w (mirN false X)) := by
 have B := (Bel.refl w).alloc (.cells #[] 67)
 have C := Ho.mk (dMirror (s := false) _ (hx.bel B) hX hn hl hc hc2)
 have HB := Ho.mk B
 clear hx B
 go_enter Tryz.func253, Tryz.ntmps253
 go_wp2_with fail
 (with_reducible refine C.out.mono ?_); rintro e w1 ⟨A1, c1, rfl, r, b⟩
 have R := Ho.mk r
 have HC := Ho.mk b
 clear C r b
 go_wp2
 go_ret
 exact ⟨A1, c1, rfl, R.out.mono HB.out.size, HB.out.trans HC.out⟩
theorem pad_fz {w : World} {b n : Nat} {X : List Nat} {news : List Value} (K : w.heap[b]? = some (.cells (((List.replicate (n + 2) (Value.float .f64 0)).toArray.toList.take 1 ++ (news ++ (List.replicate (n + 2) (Value.float .f64 0)).toArray.toList.drop (1 + news.length))).toArray) 22 (0, 0)))
  (hX : X.length = n) (hn : news.length = X.length) (hf : ∀ j u, news[j]? = some u → Fc u (nthN X j)) : Fz w b (padN X) := by
 refine ⟨_, ⟨K⟩, fun j hj => ?_⟩
 rw [padN_len] at hj
 have e : nthN (padN X) j = if j = 0 ∨ j = X.length + 1 then 0 else nthN X (j - 1) := nth_map _ hj
 rw [e]
 have l1 : ((List.replicate (n + 2) (Value.float .f64 0)).take 1).length = 1 := by rw [List.length_take, List.length_replicate]; omega
 rw [List.getElem?_append]
 split
 ·rename_i q
  have q : j < 1 := by rw [l1] at q; exact q
  refine ⟨.float .f64 0, ?_, 0, rfl, by decide, by rw [if_pos (by omega)]; exact cn_zero⟩
  rw [List.getElem?_take, if_pos q, List.getElem?_replicate, if_pos (by omega)]
 ·rename_i q
  have q : ¬ j < 1 := by rw [l1] at q; exact q
  simp only [l1]
  rw [List.getElem?_append]
  split
  ·rename_i q2
   rw [if_neg (by omega)]
   exact ⟨_, List.getElem?_eq_getElem q2, hf _ _ (List.getElem?_eq_getElem q2)⟩
  ·rename_i q2
   refine ⟨.float .f64 0, ?_, 0, rfl, by decide, by rw [if_pos (by omega)]; exact cn_zero⟩
   rw [List.getElem?_drop, List.getElem?_replicate, if_pos (by omega)]
theorem fz_in {w : World} {b n c : Nat} {X : List Nat} (h : Fz w b X) (hn : X.length = n) (hl : n ≤ 100000) (h1 : n ≤ c) (h2 : c ≤ 9223372036854775807) : In w (.slice (some ⟨b, 0, none⟩) n c) X := by
 subst hn
 exact ⟨_, c, rfl, h1, h2, h.fr (by omega), fun e => by cases e⟩
theorem infoS : (Tryz.prog.info? 22).map (·.size) = some 1 := by kernel_rfl
theorem wpList_pad {w : World} {ops : Array Oper} {rest : List Oper} {o : Oper} {a : Act} {Q : Exit → Act → World → Prop} (hgd : o.guard = none) (d s : Operand)
  (ho : o.op = .call { callee := .builtin .copy, args := #[d, s], argTypes := #[25, 25] })
  {g n c : Nat} {ad : Addr} {X : List Nat} (hX : X.length = n) (hx : In w (.slice (some ad) n c) X) (K : Blk w g 22 (List.replicate (n + 2) (.float .f64 0)))
  (hd : a.eval d = .slice (some ⟨g, 1, none⟩) (n + 1) (n + 1)) (hs : a.eval s = .slice (some ad) n c)
  (h : ∀ w' r, Fz w' g (padN X) → (∀ W0, Bel W0 w → W0.heap.size ≤ g → Bel W0 w') → wpList Tryz.prog ops Q rest (a.put o.dst r) w') : wpList Tryz.prog ops Q (o :: rest) a w := by
 obtain ⟨A1, cX, eX, h2, h3, h4, h5⟩ := hx.out
 cases eX
 obtain ⟨news, k1, k2, k3⟩ := Fr.news h4
 refine wpList_copy_own hgd d s 25 25 ho 22 Tryz.underlying25 infoS g 1 _ _ ad _ _ hd hs _ 22 K.out news (by rw [k1]; exact (Nat.min_eq_left (by omega)).symm) k2 (by rw [k1]; simp; omega) (fc_one k3) ?_
 exact h _ _ (pad_fz (setRow_heap w g _ _ 22 _ K.out) rfl k1 k3) (fun W0 hb hg => ⟨below_setRow hb.out hg _⟩)
theorem dMirS {ad : Addr} {c n : Nat} {X : List Nat} (w : World) (hx : In w (.slice (some ad) n c) X) (hX : X.length = n) (hn : 1 ≤ n) (hl : n ≤ 900) (hc : n ≤ c) (hc2 : c ≤ 9223372036854775807) :
  Calls Tryz.prog 256 #[.agg #[], .slice (some ad) n c] w (MakesF w (mirN true (padN X))) := by
 have B := (Bel.refl w).alloc (.cells #[] 68)
 have HX := Ho.mk (hx.bel B)
 have HB := Ho.mk B
 have LX := Ho.mk hX
 clear hx B hX
 obtain ⟨m, hm⟩ : ∃ m, m = n + 2 := ⟨_, rfl⟩
 have em : (n : Int) + 2 = (m : Int) := by omega
 have hmn : m - 1 = n + 1 := by omega
 have f1 : (1 : Int) ≤ (m : Int) := by omega
 have hm1 : ¬ m = 1 := by omega
 have HM := Ho.mk hm
 clear hm
 go_enter Tryz.func256, Tryz.ntmps256
 go_upto_region 2 with (at_make; refine wpList_mk _ rfl _ _ 25 rfl 22 (.float .f64 0) 8 Tryz.underlying25 infoF rfl m rfl rfl (by have := HM.out; omega) (by have := HM.out; omega) ?_; intro w1 hk hb hs; have HK := Ho.mk hk; have HB1 := Ho.mk hb; clear hk hb hs)
 have KX := Ho.mk (HX.out.bel HB1.out)
 rw [HM.out, World.size_alloc] at HK
 have HB2 := Ho.mk (HB.out.trans HB1.out)
 clear HX HB HB1
 go_wp2_with (refine wpList_pad (o := ⟨some 13, _, _, _, _, _⟩) rfl _ _ rfl LX.out KX.out HK.out rfl rfl ?_; intro w3 r hf hbw; have HF := Ho.mk hf; have HW := Ho.mk (hbw w HB2.out (Nat.le_succ _)); clear hf hbw)
 have C := Ho.mk (dMirror (s := true) w3 (fz_in (n := m) (c := m) HF.out (by rw [padN_len, LX.out, HM.out]) (by have := HM.out; omega) (Nat.le_refl _) (by have := HM.out; omega)) (by rw [padN_len, LX.out, HM.out]) (by have := HM.out; omega) (by have := HM.out; omega) (Nat.le_refl _) (by have := HM.out; omega))
 (with_reducible refine C.out.mono ?_); rintro e w4 ⟨A1, c1, rfl, r1, b⟩
 have R := Ho.mk r1
 have HC := Ho.mk b
 clear C r1 b
 go_wp2
 go_ret
 exact ⟨A1, c1, rfl, R.out.mono HW.out.size, HW.out.trans HC.out⟩
def Takes (w : World) (o n : Nat) (Z : List Nat) (e : Ending) (w' : World) : Prop := ∃ g c, e = .returned (.slice (some ⟨g, o, none⟩) n c) ∧ n ≤ c ∧ c ≤ 9223372036854775807 ∧ w.heap.size ≤ g ∧ Fz w' g Z ∧ Bel w w'
theorem og_fz {w : World} {B n : Nat} {v : Value} {Z : List Nat} (h : Og w v Z) (hn : Z.length = n) (h0 : 0 < n) (hB : ∀ g, v.ownBlock = some g → B ≤ g) : ∃ g c, v = .slice (some ⟨g, 0, none⟩) n c ∧ n ≤ c ∧ c ≤ 9223372036854775807 ∧ Fz w g Z ∧ B ≤ g := by
 subst hn
 exact (h.rowF hB).at_ h0
theorem dTakS {A : Option Addr} {c n : Nat} {E : List Nat} (w : World) (hx : In w (.slice A E.length c) E) (hE : E.length = 2 * (n + 1)) (hn : 1 ≤ n) (hl : n ≤ 900) :
  Calls Tryz.prog 257 #[.agg #[], .slice A E.length c, .int .i64 (n : Int)] w (Takes w 1 n (M2.oddG opsN E)) := by
 have B := (Bel.refl w).alloc (.cells #[] 68)
 have C := Ho.mk (dOdd _ (hx.bel B) (by omega))
 have HB := Ho.mk B
 obtain ⟨Z, hZ⟩ : ∃ Z, Z = M2.oddG opsN E := ⟨_, rfl⟩
 have lZ : Z.length = n + 1 := by rw [hZ, M2.oddG_len]; omega
 rw [← hZ] at C ⊢
 have LZ := Ho.mk lZ
 have f1 : (n : Int) + 1 = ((n + 1 : Nat) : Int) := by omega
 have s1 : n + 1 - 1 = n := by omega
 clear hx B hE hZ lZ
 go_enter Tryz.func257, Tryz.ntmps257
 go_wp2_with fail
 (with_reducible refine C.out.mono ?_); rintro e w1 ⟨A1, c1, rfl, ⟨g1, o1⟩, b1⟩
 obtain ⟨g, c2, e, h1, h2, hf, hg⟩ := og_fz g1 LZ.out (by omega) o1
 rw [LZ.out] at e ⊢
 cases e
 have HF := Ho.mk hf
 have HG := Ho.mk hg
 have HW := Ho.mk b1
 have f2 : (1 : Int) ≤ (n : Int) + 1 := by omega
 have f3 : (n : Int) + 1 ≤ (c1 : Int) := by omega
 have hc : ¬ c1 = 1 := by omega
 have s2 : ((n : Int) + 1 - 1).toNat = n := by omega
 clear C g1 o1 b1 hf hg f1
 go_wp2
 go_ret
 exact ⟨g, c1 - 1, rfl, by omega, by omega, Nat.le_trans HB.out.size HG.out, HF.out, HB.out.trans HW.out⟩
theorem one_in {w : World} {r x : Nat} (hr : r < 2 * sgnW) (hx : cn r = x) : In (w.alloc (.cells #[.float .f64 r] 22)) (.slice (some ⟨w.heap.size, 0, none⟩) 1 1) [x] := by
 subst hx
 refine ⟨some ⟨w.heap.size, 0, none⟩, 1, rfl, Nat.le_refl _, by decide, Fz.fr ⟨_, Blk.new w [.float .f64 r] 22, fun j hj => ?_⟩ (by simp), fun e => by cases e⟩
 obtain rfl : j = 0 := by simp at hj; omega
 exact ⟨_, rfl, r, rfl, hr, rfl⟩
theorem dTakC {ad : Addr} {c n : Nat} {E : List Nat} (w : World) (hx : In w (.slice (some ad) E.length c) E) (hE : E.length = 2 * (n - 1)) (hn : 3 ≤ n) (hl : n ≤ 900) :
  Calls Tryz.prog 254 #[.agg #[], .slice (some ad) E.length c, .int .i64 (n : Int)] w (Takes w 0 n (M2.evenG opsN E ++ [nthN E 1])) := by
 have B := (Bel.refl w).alloc (.cells #[] 67)
 have C := Ho.mk (dEven _ (hx.bel B) (by omega))
 have HB := Ho.mk B
 have HX := Ho.mk hx
 obtain ⟨Z, hZ⟩ : ∃ Z, Z = M2.evenG opsN E := ⟨_, rfl⟩
 have lZ : Z.length = n - 1 := by rw [hZ, M2.evenG_len]; omega
 rw [← hZ] at C ⊢
 have LZ := Ho.mk lZ
 have f1 : (n : Int) - 1 = ((n - 1 : Nat) : Int) := by omega
 have hE1 : (1 : Int) < (E.length : Int) := by omega
 obtain ⟨A0, c0, e0, h2, h3, h4, h5⟩ := hx.out
 cases e0
 obtain ⟨ad1, v1, e1, hc1, r1, rfl, hr1, hx1⟩ := h4.cell 1 (by omega)
 cases e1
 have R1 := Ho.mk (And.intro hr1 hx1)
 have Y1 := Ho.mk hc1
 have LE := Ho.mk hE
 clear hx B hE hZ lZ h2 h3 h4 h5 hr1 hx1 hc1
 go_enter Tryz.func254, Tryz.ntmps254
 go_wp2_with fail
 (with_reducible refine C.out.mono ?_); rintro e w1 ⟨A1, c1, rfl, ⟨g1, o1⟩, b1⟩
 obtain ⟨g, c2, e, h1, h2, hf, hg⟩ := og_fz g1 LZ.out (by omega) o1
 rw [LZ.out] at e g1 o1 ⊢
 cases e
 have G1 := Ho.mk g1
 have O1 := Ho.mk o1
 have HW := Ho.mk (HB.out.trans b1)
 have f2 : (n : Int) - 1 ≤ (c1 : Int) := by omega
 have s2 : ((n : Int) - 1).toNat = n - 1 := by omega
 have y1 := HW.out.cell Y1.out
 clear C g1 o1 b1 hf hg f1
 have y2 : w1.cell? { block := ad.block, off := ad.off + 1 } = some (.float .f64 r1) := y1
 have IO := Ho.mk (one_in (w := w1) R1.out.1 R1.out.2)
 have G2 := Ho.mk (G1.out.bel ((Bel.refl w1).alloc (.cells #[.float .f64 r1] 22)))
 have HW2 := Ho.mk (HW.out.trans ((Bel.refl w1).alloc (.cells #[.float .f64 r1] 22)))
 have lz : Z.length ≤ 100000 := by rw [LZ.out]; omega
 have eZ : (Z ++ [nthN E 1]).length = n := by rw [List.length_append, LZ.out]; simp; omega
 have LZ1 := Ho.mk lz
 have EZ := Ho.mk eZ
 clear lz eZ G1
 rw [← LZ.out] at G2
 go_wp2_with (at_builtin; refine wpList_appR rfl _ _ rfl G2.out (by show Value.slice _ _ _ = _; rw [LZ.out]) rfl IO.out LZ1.out (by simp) ?_; intro A4 c4 w4 ho ha; rw [EZ.out] at ho ha ⊢; have HO4 := Ho.mk ho; have HA4 := Ho.mk ha; clear ho ha)
 go_ret
 have own1 : ∀ g', (Value.slice (some { block := g, off := 0 }) Z.length c1).ownBlock = some g' → w.heap.size ≤ g' := fun g' hg => Nat.le_trans HB.out.size (O1.out g' hg)
 obtain ⟨g2, c5, e, k1, k2, kf, kg⟩ := og_fz (B := w.heap.size) HO4.out EZ.out (by omega) (fun g' hg => by
  rcases HA4.out.own with q | q
  ·rw [q] at hg; exact own1 g' hg
  ·rw [q] at hg; cases hg; exact HW2.out.size)
 cases e
 exact ⟨g2, c4, rfl, k1, k2, kg, kf, HA4.out.bel HW2.out own1⟩
end Ke
namespace Le
open Ieee Go Go.RowKit Go.Proofs Go.Proofs.YtalbgklfhabnkaaGreatDoor Ow Dt Gp I0 U0 W0 S4 S6 P0 M0 M1 M3 W4 W5 V2 P4 Y3 Yh Y1 P8 Pc Y5 Y6 Y7 Pk Lv Pj
open Go.Proofs.YtalbgklfhabnkaaGreatDoor.V1 (NI St ni_same ni_loop St.refl St.of_bel blk_keep ni_blk put_st)
open Go.Proofs.YtalbgklfhabnkaaGreatDoor.C6 (leaveAny)
open Go.Proofs.YtalbgklfhabnkaaGreatDoor.Pg (In)
attribute [local go_sem ↓] Go.wp_at_zero Go.wp_at_succ
section
variable {A B : Option Addr} {n m c c' : Nat} {X Y : List Nat} {w : World}
theorem pRfft (T : Tab w) (hx : In w (.slice A n c) X) (hl : X.length ≤ 128) {Z : List Nat} {z : Int} (h1 : Z = rfR X) (h2 : z = errF X) :
  Calls Tryz.prog 84 #[.slice A n c] w (MakesRE w Z z) := by
 obtain rfl := In.len hx
 rw [h1, h2]; exact dRfft w T hx hl
theorem pSameRow (hx : In w (.slice A n c) X) (hy : In w (.slice B m c') Y) (l1 : X.length ≤ 100000) (l2 : Y.length ≤ 100000) {z : Bool} (hz : z = decide (X = Y)) :
  Calls Tryz.prog 20 #[.slice A n c, .slice B m c'] w (fun e w' => e = .returned (.bool z) ∧ Bel w w') := by
 rw [hz]; exact dSameRowI w hx hy l1 l2
end
theorem h1 : rfR [4607182418800017408, 4611686018427387904, 4613937818241073152, 4616189618054758400] = [4621819117588971520, 13835058055282163712, 13835058055282163712, 4611686018427387904] ∧ errF [4607182418800017408, 4611686018427387904, 4613937818241073152, 4616189618054758400] = 0 := by decide +kernel
theorem h2 : rfR [4607182418800017408, 4611686018427387904, 4613937818241073152] = [] ∧ errF [4607182418800017408, 4611686018427387904, 4613937818241073152] = 2 := by decide +kernel
theorem h3 : binsRe [4621819117588971520, 13835058055282163712, 13835058055282163712, 4611686018427387904] = [4621819117588971520, 13835058055282163712, 13835058055282163712] ∧ binsIm [4621819117588971520, 13835058055282163712, 13835058055282163712, 4611686018427387904] = [0, 4611686018427387904, 0] ∧ okR 4 = true := by decide +kernel
end Le
namespace Kf
open Ieee Go Go.RowKit Go.Proofs Go.Proofs.YtalbgklfhabnkaaGreatDoor Ow Dt Dp Gp F1 I0 U0 W0 S3 S4 S6 P0 P3 P4 M0 M1 M3 W4 W5 V2 Y3 Yh Y1 Y4 Y6 Ka Kb Kc Kd Ke Le Z4
open Go.Proofs.YtalbgklfhabnkaaGreatDoor.Pg (In)
attribute [local go_sem ↓] Go.wp_at_zero Go.wp_at_succ
def pS (s : Bool) (n : Nat) : Nat := if s then Nat.log2 (n + 1) else Nat.log2 (n - 1)
def d1R (s : Bool) (X : List Nat) : List Nat := if okS s X.length then (if s then dst1N (pS s X.length) X else dct1N (pS s X.length) X) else []
def d1E (s : Bool) (X : List Nat) : Int := if okS s X.length then 0 else 2
structure Part (w w' : World) (o : Nat) (A : Option Addr) (Z : List Nat) : Prop where
 out : Z.length = 0 ∨ ∃ g Y, A = some ⟨g, o, none⟩ ∧ Fz w' g Y ∧ w.heap.size ≤ g ∧ Y.length = o + Z.length ∧ ∀ k, k < Z.length → nthN Y (o + k) = nthN Z k
def MakesPE (w : World) (o : Nat) (Z : List Nat) (z : Int) (e : Ending) (w' : World) : Prop := ∃ A c, e = .returned (.tuple #[.slice A Z.length c, .int .i64 z]) ∧ In w' (.slice A Z.length c) Z ∧ Part w w' o A Z ∧ Bel w w'
theorem okS_c {n : Nat} (h : okS false n = true) : n = 2 ^ pS false n + 1 ∧ 1 ≤ pS false n ∧ n ≤ 1025 := by
 obtain ⟨h1, h2, h3⟩ := okR_pow (show okR (n - 1) = true from h)
 have := Nat.two_pow_pos (Nat.log2 (n - 1))
 simp only [pS, Bool.false_eq_true, if_false]
 refine ⟨?_, h2, by omega⟩
 by_cases h0 : n = 0
 ·subst h0; exact absurd h (by decide)
 ·omega
theorem okS_s {n : Nat} (h : okS true n = true) : n + 1 = 2 ^ pS true n ∧ 1 ≤ pS true n ∧ n ≤ 1023 := by
 obtain ⟨h1, h2, h3⟩ := okR_pow (show okR (n + 1) = true from h)
 exact ⟨h1, h2, by omega⟩
theorem okR_two {p : Nat} (h : 1 ≤ p) (h2 : p ≤ 10) : okR (2 ^ p) = true := by
 unfold okR logI
 have := Nat.two_pow_pos p
 have : 2 ^ p ≤ 2 ^ 10 := Nat.pow_le_pow_right (by omega) h2
 rw [Nat.log2_two_pow, if_pos ⟨by omega, rfl, by omega⟩]
 exact decide_eq_true (by omega)
def upM (h o i : Nat) (Z : List Nat) : List Nat := (List.range Z.length).map fun k => if o ≤ k ∧ k < o + i then fmul (nthN Z k) h else nthN Z k
theorem upM_len (h o i : Nat) (Z : List Nat) : (upM h o i Z).length = Z.length := by simp [upM]
theorem upM_at {h o i k : Nat} {Z : List Nat} (hk : k < Z.length) : nthN (upM h o i Z) k = if o ≤ k ∧ k < o + i then fmul (nthN Z k) h else nthN Z k := nth_map _ hk
theorem upM_zero (h o : Nat) (Z : List Nat) : upM h o 0 Z = Z := by
 refine List.ext_getElem (by simp [upM]) fun i h1 h2 => ?_
 simp only [upM, List.getElem_map, List.getElem_range]
 rw [if_neg (by omega)]; exact nthN_lt h2
theorem upM_set {h o i : Nat} {Z : List Nat} (hi : o + i < Z.length) : (upM h o i Z).set (o + i) (fmul (nthN Z (o + i)) h) = upM h o (i + 1) Z := by
 refine List.ext_getElem (by simp [upM]) fun k h1 h2 => ?_
 rw [upM_len] at h2
 rw [List.getElem_set]
 simp only [upM, List.getElem_map, List.getElem_range]
 by_cases e : o + i = k
 ·subst e; rw [if_pos rfl, if_pos ⟨by omega, by omega⟩]
 ·rw [if_neg e]
  by_cases q : o ≤ k ∧ k < o + i
  ·rw [if_pos q, if_pos ⟨q.1, by omega⟩]
  ·rw [if_neg q, if_neg (by omega)]
theorem nthN_app' (a b : List Nat) (i : Nat) : nthN (a ++ b) i = if i < a.length then nthN a i else nthN b (i - a.length) := nthG_app opsN a b i
theorem half_ok : (4602678819172646912 : Nat) < 2 * sgnW ∧ cn 4602678819172646912 = halfW ∧ (13826050856027422720 : Nat) < 2 * sgnW ∧ cn 13826050856027422720 = fng halfW := by decide +kernel
theorem dMade0c {A : Option Addr} {c n : Nat} (w : World) (T : Tab w) (hn : n ≤ 129) (hok : okS false n = false) :
  Calls Tryz.prog 49 #[.iface 67 (.agg #[]), .slice A n c] w (fun e w' => e = .returned (.tuple #[.slice none 0 0, .int .i64 2]) ∧ Bel w w') := by
 have F := Ho.mk (dFitsE (s := false) w hn T)
 rw [hok] at F
 simp only [kS, Bool.false_eq_true, if_false, if_true] at F
 clear T hok
 have ha : ∀ w, (Instr.typeAssert (.iface 67 (.agg #[])) 113 67 true).run Tryz.prog w = .ok (.tuple #[.agg #[], .bool true]) w := fun _ => by kernel_rfl
 go_enter Tryz.func49, Tryz.ntmps49
 go_wp2_with fail
 (with_reducible refine F.out.mono ?_); rintro e w1 ⟨rfl, b⟩
 go_wp2
 go_ret2
 exact ⟨rfl, b⟩
theorem dMade1c {ad : Addr} {c n : Nat} {X : List Nat} (w : World) (T : Tab w) (hx : In w (.slice (some ad) n c) X) (hX : X.length = n) (hn : n ≤ 64) (hok : okS false n = true) (hc : n ≤ c) (hc2 : c ≤ 9223372036854775807) :
  Calls Tryz.prog 49 #[.iface 67 (.agg #[]), .slice (some ad) n c] w (MakesPE w 0 (d1R false X) 0) := by
 obtain ⟨ok1, ok2, ok3⟩ := okS_c hok
 have F := dFitsE (s := false) w (show n ≤ 129 by omega) T
 rw [hok] at F
 simp only [kS, Bool.false_eq_true, if_false, if_true] at F
 replace F := Ho.mk F
 obtain ⟨p, hp⟩ : ∃ p, p = pS false n := ⟨_, rfl⟩
 rw [← hp] at ok1 ok2
 have p6 : p ≤ 6 := by
  rcases Nat.lt_or_ge p 7 with q | q
  ·omega
  ·have := Nat.pow_le_pow_right (n := 2) (by omega) q
   omega
 have h64 : 2 ^ p ≤ 64 := Nat.pow_le_pow_right (n := 2) (by omega) p6
 have hq2 : 2 ≤ 2 ^ p := by rw [two_half ok2]; have := Nat.two_pow_pos (p - 1); omega
 have hp1 : 2 ^ (p + 1) = 2 * 2 ^ p := two_pow p
 obtain ⟨M, hM⟩ : ∃ M, M = mirN false X := ⟨_, rfl⟩
 have lM : M.length = 2 ^ (p + 1) := by rw [hM, mirN_len]; omega
 have okM : okR M.length = true := by rw [lM]; exact okR_two (by omega) (by omega)
 obtain ⟨R, hR⟩ : ∃ R, R = rfR M := ⟨_, rfl⟩
 have eR : R = rfftN (p + 1) M := by rw [hR]; unfold rfR; rw [okM, lM, Nat.log2_two_pow]; rfl
 have lR : R.length = 2 ^ (p + 1) := by rw [eR, rfftN_len]
 have eF : 0 = errF M := by unfold errF; rw [okM]; rfl
 obtain ⟨Z, hZ⟩ : ∃ Z, Z = M2.evenG opsN R ++ [nthN R 1] := ⟨_, rfl⟩
 obtain ⟨D, hD⟩ : ∃ D, D = d1R false X := ⟨_, rfl⟩
 have lD : D.length = n := by rw [hD]; unfold d1R; rw [hX, hok, ← hp]; simp [dct1N_len]; omega
 have lZ : Z.length = n + 0 := by rw [hZ, List.length_append, M2.evenG_len, lR]; simp; omega
 have dZ : ∀ j, j < n → fmul (nthN Z (0 + j)) halfW = nthN D j := fun j hj => by
  rw [hD]; unfold d1R; rw [hX, hok, ← hp]
  simp only [if_true, Bool.false_eq_true, if_false]
  rw [show nthN (dct1N p X) j = fmul (nthN (rfftN (p + 1) (mirN false X)) (if j < 2 ^ p then 2 * j else 1)) halfW from nth_map _ (by omega), ← hM, ← eR, hZ, nthN_app', M2.evenG_len, lR, Nat.zero_add]
  by_cases q : j < 2 ^ p
  ·rw [if_pos (by omega), if_pos q]; congr 1; exact nth_map _ (by rw [lR]; omega)
  ·rw [if_neg (by omega), if_neg q]; congr 1; obtain rfl : j = 2 ^ p := by omega
   rw [show 2 ^ p - (2 ^ (p + 1) + 1) / 2 = 0 by omega]; rfl
 have CM := Ho.mk (fun w' (b : Bel w w') => dMirC w' (hx.bel b) hX (by omega) (by omega) hc hc2)
 rw [← hM] at CM
 have LM := Ho.mk (And.intro lM lR)
 have L128 := Ho.mk (show M.length ≤ 128 ∧ 0 < R.length by rw [lM, lR, hp1]; omega)
 have TT := Ho.mk T
 have ER := Ho.mk (And.intro hR eF)
 have LD := Ho.mk lD
 have LZ := Ho.mk lZ
 have DZ := Ho.mk dZ
 have CT := Ho.mk (fun w' {ad : Addr} {c : Nat} (h : In w' (.slice (some ad) R.length c) R) => dTakC (n := n) w' h (by omega) (by omega) (by omega))
 rw [← hZ] at CT
 rw [← hD]
 have hn2 : 0 < n := by omega
 clear T hok ok1 ok2 ok3 hp p6 h64 hq2 hp1 lM okM eR lR eF lD lZ dZ hx hX hM hR hZ hD hc hc2
 have ha : ∀ w, (Instr.typeAssert (.iface 67 (.agg #[])) 113 67 true).run Tryz.prog w = .ok (.tuple #[.agg #[], .bool true]) w := fun _ => by kernel_rfl
 have hi1 : ∀ w, (method 405 67 (.agg #[]) "overtone/dctone.mirrored").run Tryz.prog w = .ok (253, .agg #[]) w := fun _ => by kernel_rfl
 have hi2 : ∀ w, (method 405 67 (.agg #[]) "overtone/dctone.taken").run Tryz.prog w = .ok (254, .agg #[]) w := fun _ => by kernel_rfl
 go_enter Tryz.func49, Tryz.ntmps49
 go_wp2_with fail
 (with_reducible refine F.out.mono ?_); rintro e w1 ⟨rfl, b1⟩
 have B1 := Ho.mk b1
 clear F b1
 go_wp2_with fail
 (with_reducible refine (CM.out _ B1.out).mono ?_); rintro e w2 ⟨A1, c1, rfl, r1, b2⟩
 have I1 := Ho.mk (Pg.RowF.inn r1 (by have := L128.out.1; omega))
 have B2 := Ho.mk (B1.out.trans b2)
 clear CM r1 b2 B1
 go_wp2_with fail
 (with_reducible refine (pRfft (TT.out.bel B2.out) I1.out L128.out.1 ER.out.1 ER.out.2).mono ?_); rintro e w3 ⟨A2, c2, rfl, r2, b3⟩
 obtain ⟨g2, c3, e, k1, k2, k3, k4⟩ := r2.at_ L128.out.2
 cases e
 have I2 := Ho.mk (Pg.RowF.inn r2 (by have := LM.out; have := L128.out.1; omega))
 have B3 := Ho.mk (B2.out.trans b3)
 clear I1 r2 k1 k2 k3 k4 b3 B2
 go_wp2_with fail
 (with_reducible refine (CT.out _ I2.out).mono ?_); rintro e w4 ⟨g, c4, rfl, h1, h2, hg, hf, b4⟩
 have H : Ho (Hp w w4 [.row g Z]) := ⟨⟨B3.out.trans b4, fun x hx => by simp at hx; subst hx; exact Nat.le_trans B3.out.size hg, by simp, fun x hx => by simp at hx; subst hx; exact hf⟩⟩
 clear CT I2 B3 hg hf b4 hi1 hi2
 go_wp2_with fail
 obtain ⟨wx, rfl⟩ : ∃ wx : World, wx = w4 := ⟨_, rfl⟩
 go_loopw [39] (fun v wr => ∃ (i : Nat), i ≤ n ∧ v = .int .i64 i ∧ Ho (Hp w wr [.row g (upM halfW 0 i Z)])) (fun v _ => n - (intOf v).toNat)
 case atStart => exact ⟨0, Nat.zero_le _, rfl, by rw [upM_zero]; exact H⟩
 case round =>
  clear H
  obtain ⟨i, hi, rfl, H⟩ := hrel
  rcases Nat.lt_or_ge i n with hlt | hge
  ·obtain ⟨r, y0, l0, c0⟩ := (H.out.row 0 rfl).at_ (i := i) (by rw [upM_len, LZ.out]; omega)
   have C0 := Ho.mk (And.intro l0 c0)
   clear l0 c0
   go_wp2_with fail
   (with_reducible refine (dOMul wr C0.out.1 half_ok.1).mono ?_); rintro e w5 ⟨q, rfl, l5, c5, b5⟩
   replace H := Ho.mk (H.out.grow b5)
   have C5 := Ho.mk (And.intro l5 (show cn q = fmul (nthN Z (0 + i)) halfW by rw [c5, C0.out.2, half_ok.2.1, upM_at (by rw [LZ.out]; omega), if_neg (by omega), Nat.zero_add]))
   clear y0 C0 l5 c5 b5
   obtain ⟨_, y0, _, _⟩ := (H.out.row 0 rfl).at_ (i := i) (by rw [upM_len, LZ.out]; omega)
   have x0 := (H.out.row 0 rfl).free (i)
   go_wp2_with fail
   clear y0 x0
   replace H := Ho.mk (H.out.setF 0 rfl (i) C5.out.1 C5.out.2)
   simp only [List.set_cons_zero, List.set_cons_succ] at H
   generalize World.setCell w5 ⟨g, i, none⟩ (.float .f64 q) = w6 at *
   have eU := upM_set (h := halfW) (o := 0) (i := i) (Z := Z) (by rw [LZ.out]; omega)
   rw [Nat.zero_add] at eU
   rw [Nat.zero_add, eU] at H
   clear eU
   go_roundw
   case rel => exact ⟨i + 1, by omega, by simp, H⟩
   case measure => simp [intOf]; omega
  ·obtain rfl : i = n := by omega
   go_wp2
   go_ret2
   have P : Part w wr 0 (some ⟨g, 0, none⟩) D := ⟨.inr ⟨g, _, rfl, H.out.row 0 rfl, H.out.ge _ (List.mem_cons_self ..), by rw [upM_len, LZ.out, LD.out]; omega, fun j hj => by
    rw [LD.out] at hj
    rw [upM_at (by rw [LZ.out]; omega), if_pos (by omega), DZ.out j hj]⟩⟩
   refine ⟨_, c4, by rw [LD.out]; rfl, ?_, P, H.out.bel⟩
   have I := fz_in (n := i + 0) (c := i + 0) (H.out.row 0 rfl) (by rw [upM_len, LZ.out]) (by omega) (Nat.le_refl _) (by omega)
   have J := in_part (c' := c4) (i := 0) (Y := D) I (by rw [upM_len, LZ.out]) LD.out (by omega) h1 h2 (fun j hj => by rw [upM_at (by rw [LZ.out]; omega), if_pos (by omega), DZ.out j hj])
   rw [LD.out]
   exact J
theorem dDct1 {A : Option Addr} {c n : Nat} {X : List Nat} {w : World} (T : Tab w) (hx : In w (.slice A n c) X) (hl : X.length ≤ 64) {Z : List Nat} {z : Int} (h1 : Z = d1R false X) (h2 : z = d1E false X) :
  Calls Tryz.prog 23 #[.slice A n c] w (MakesPE w 0 Z z) := by
 obtain rfl : X.length = n := by obtain ⟨A1, c1, e1, _⟩ := hx.out; cases e1; rfl
 obtain ⟨A1, c1, e1, k1, k2, k3, k4⟩ := hx.out
 cases e1
 have CM : Ho (Calls Tryz.prog 49 #[.iface 67 (.agg #[]), .slice A X.length c] w (MakesPE w 0 Z z)) := by
  cases hok : okS false X.length with
  | false =>
   have e1 : Z = [] := by rw [h1]; unfold d1R; rw [hok]; rfl
   have e2 : z = 2 := by rw [h2]; unfold d1E; rw [hok]; rfl
   rw [e1, e2]
   refine ⟨(dMade0c w T (by omega) hok).mono ?_⟩
   rintro e w' ⟨rfl, b⟩
   exact ⟨none, 0, rfl, ⟨none, 0, rfl, Nat.le_refl _, by decide, Fr.nil _ _, fun _ => rfl⟩, ⟨.inl rfl⟩, b⟩
  | true =>
   have e2 : z = 0 := by rw [h2]; unfold d1E; rw [hok]; rfl
   rw [h1, e2]
   have h0 : 0 < X.length := by
    have := okS_c hok
    have := Nat.two_pow_pos (pS false X.length)
    by_cases q : X.length = 0
    ·rw [q] at hok; exact absurd hok (by decide)
    ·omega
   cases A with
   | none => have := k4 rfl; omega
   | some ad => exact ⟨dMade1c w T hx rfl hl hok k1 k2⟩
 clear T hx hl h1 h2 k1 k2 k3 k4
 go_enter Tryz.func23, Tryz.ntmps23
 go_wp2_with fail
 (with_reducible refine CM.out.mono ?_); rintro e w1 ⟨A2, c2, rfl, i, p, b⟩
 have I := Ho.mk (And.intro i (And.intro p b))
 clear CM i p b
 go_wp2
 go_ret2
 exact ⟨A2, c2, rfl, I.out.1, I.out.2.1, I.out.2.2⟩
theorem dMade0s {A : Option Addr} {c n : Nat} (w : World) (T : Tab w) (hn : n ≤ 129) (hok : okS true n = false) :
  Calls Tryz.prog 49 #[.iface 68 (.agg #[]), .slice A n c] w (fun e w' => e = .returned (.tuple #[.slice none 0 0, .int .i64 2]) ∧ Bel w w') := by
 have F := Ho.mk (dFitsE (s := true) w hn T)
 rw [hok] at F
 simp only [kS, Bool.false_eq_true, if_false, if_true] at F
 clear T hok
 have ha : ∀ w, (Instr.typeAssert (.iface 68 (.agg #[])) 113 67 true).run Tryz.prog w = .ok (.tuple #[.agg #[], .bool false]) w := fun _ => by kernel_rfl
 have hb : ∀ w, (Instr.typeAssert (.iface 68 (.agg #[])) 113 68 true).run Tryz.prog w = .ok (.tuple #[.agg #[], .bool true]) w := fun _ => by kernel_rfl
 go_enter Tryz.func49, Tryz.ntmps49
 go_wp2_with fail
 (with_reducible refine F.out.mono ?_); rintro e w1 ⟨rfl, b⟩
 go_wp2
 go_ret2
 exact ⟨rfl, b⟩
theorem dMade1s {ad : Addr} {c n : Nat} {X : List Nat} (w : World) (T : Tab w) (hx : In w (.slice (some ad) n c) X) (hX : X.length = n) (hn : n ≤ 64) (hok : okS true n = true) (hc : n ≤ c) (hc2 : c ≤ 9223372036854775807) :
  Calls Tryz.prog 49 #[.iface 68 (.agg #[]), .slice (some ad) n c] w (MakesPE w 1 (d1R true X) 0) := by
 obtain ⟨ok1, ok2, ok3⟩ := okS_s hok
 have F := dFitsE (s := true) w (show n ≤ 129 by omega) T
 rw [hok] at F
 simp only [kS, Bool.false_eq_true, if_false, if_true] at F
 replace F := Ho.mk F
 obtain ⟨p, hp⟩ : ∃ p, p = pS true n := ⟨_, rfl⟩
 rw [← hp] at ok1 ok2
 have p6 : p ≤ 6 := by
  rcases Nat.lt_or_ge p 7 with q | q
  ·omega
  ·have := Nat.pow_le_pow_right (n := 2) (by omega) q
   omega
 have h64 : 2 ^ p ≤ 64 := Nat.pow_le_pow_right (n := 2) (by omega) p6
 have hq2 : 2 ≤ 2 ^ p := by rw [two_half ok2]; have := Nat.two_pow_pos (p - 1); omega
 have hp1 : 2 ^ (p + 1) = 2 * 2 ^ p := two_pow p
 obtain ⟨M, hM⟩ : ∃ M, M = mirN true (padN X) := ⟨_, rfl⟩
 have lM : M.length = 2 ^ (p + 1) := by rw [hM, mirN_len, padN_len]; omega
 have okM : okR M.length = true := by rw [lM]; exact okR_two (by omega) (by omega)
 obtain ⟨R, hR⟩ : ∃ R, R = rfR M := ⟨_, rfl⟩
 have eR : R = rfftN (p + 1) M := by rw [hR]; unfold rfR; rw [okM, lM, Nat.log2_two_pow]; rfl
 have lR : R.length = 2 ^ (p + 1) := by rw [eR, rfftN_len]
 have eF : 0 = errF M := by unfold errF; rw [okM]; rfl
 obtain ⟨Z, hZ⟩ : ∃ Z, Z = M2.oddG opsN R := ⟨_, rfl⟩
 obtain ⟨D, hD⟩ : ∃ D, D = d1R true X := ⟨_, rfl⟩
 have lD : D.length = n := by rw [hD]; unfold d1R; rw [hX, hok, ← hp]; simp [dst1N_len]; omega
 have lZ : Z.length = n + 1 := by rw [hZ, M2.oddG_len, lR]; omega
 have dZ : ∀ j, j < n → fmul (nthN Z (1 + j)) (fng halfW) = nthN D j := fun j hj => by
  rw [hD]; unfold d1R; rw [hX, hok, ← hp]
  simp only [if_true]
  rw [show nthN (dst1N p X) j = fmul (nthN (rfftN (p + 1) (mirN true (padN X))) (2 * (j + 1) + 1)) (fng halfW) from nth_map _ (by omega), ← hM, ← eR, hZ]
  congr 1
  rw [show nthN (M2.oddG opsN R) (1 + j) = nthN R (2 * (1 + j) + 1) from nth_map _ (by rw [lR]; omega), Nat.add_comm 1 j]
 have CM := Ho.mk (fun w' (b : Bel w w') => dMirS w' (hx.bel b) hX (by omega) (by omega) hc hc2)
 rw [← hM] at CM
 have LM := Ho.mk (And.intro lM lR)
 have L128 := Ho.mk (show M.length ≤ 128 ∧ 0 < R.length by rw [lM, lR, hp1]; omega)
 have TT := Ho.mk T
 have ER := Ho.mk (And.intro hR eF)
 have LD := Ho.mk lD
 have LZ := Ho.mk lZ
 have DZ := Ho.mk dZ
 have CT := Ho.mk (fun w' {ad : Addr} {c : Nat} (h : In w' (.slice (some ad) R.length c) R) => dTakS (n := n) w' h (by omega) (by omega) (by omega))
 rw [← hZ] at CT
 rw [← hD]
 have hn2 : 0 < n := by omega
 clear T hok ok1 ok2 ok3 hp p6 h64 hq2 hp1 lM okM eR lR eF lD lZ dZ hx hX hM hR hZ hD hc hc2
 have ha : ∀ w, (Instr.typeAssert (.iface 68 (.agg #[])) 113 67 true).run Tryz.prog w = .ok (.tuple #[.agg #[], .bool false]) w := fun _ => by kernel_rfl
 have hb : ∀ w, (Instr.typeAssert (.iface 68 (.agg #[])) 113 68 true).run Tryz.prog w = .ok (.tuple #[.agg #[], .bool true]) w := fun _ => by kernel_rfl
 have hi1 : ∀ w, (method 405 68 (.agg #[]) "overtone/dctone.mirrored").run Tryz.prog w = .ok (256, .agg #[]) w := fun _ => by kernel_rfl
 have hi2 : ∀ w, (method 405 68 (.agg #[]) "overtone/dctone.taken").run Tryz.prog w = .ok (257, .agg #[]) w := fun _ => by kernel_rfl
 go_enter Tryz.func49, Tryz.ntmps49
 go_wp2_with fail
 (with_reducible refine F.out.mono ?_); rintro e w1 ⟨rfl, b1⟩
 have B1 := Ho.mk b1
 clear F b1
 go_wp2_with fail
 (with_reducible refine (CM.out _ B1.out).mono ?_); rintro e w2 ⟨A1, c1, rfl, r1, b2⟩
 have I1 := Ho.mk (Pg.RowF.inn r1 (by have := L128.out.1; omega))
 have B2 := Ho.mk (B1.out.trans b2)
 clear CM r1 b2 B1
 go_wp2_with fail
 (with_reducible refine (pRfft (TT.out.bel B2.out) I1.out L128.out.1 ER.out.1 ER.out.2).mono ?_); rintro e w3 ⟨A2, c2, rfl, r2, b3⟩
 obtain ⟨g2, c3, e, k1, k2, k3, k4⟩ := r2.at_ L128.out.2
 cases e
 have I2 := Ho.mk (Pg.RowF.inn r2 (by have := LM.out; have := L128.out.1; omega))
 have B3 := Ho.mk (B2.out.trans b3)
 clear I1 r2 k1 k2 k3 k4 b3 B2
 go_wp2_with fail
 (with_reducible refine (CT.out _ I2.out).mono ?_); rintro e w4 ⟨g, c4, rfl, h1, h2, hg, hf, b4⟩
 have H : Ho (Hp w w4 [.row g Z]) := ⟨⟨B3.out.trans b4, fun x hx => by simp at hx; subst hx; exact Nat.le_trans B3.out.size hg, by simp, fun x hx => by simp at hx; subst hx; exact hf⟩⟩
 clear CT I2 B3 hg hf b4 hi1 hi2
 go_wp2_with fail
 obtain ⟨wx, rfl⟩ : ∃ wx : World, wx = w4 := ⟨_, rfl⟩
 go_loopw [39] (fun v wr => ∃ (i : Nat), i ≤ n ∧ v = .int .i64 i ∧ Ho (Hp w wr [.row g (upM (fng halfW) 1 i Z)])) (fun v _ => n - (intOf v).toNat)
 case atStart => exact ⟨0, Nat.zero_le _, rfl, by rw [upM_zero]; exact H⟩
 case round =>
  clear H
  obtain ⟨i, hi, rfl, H⟩ := hrel
  rcases Nat.lt_or_ge i n with hlt | hge
  ·obtain ⟨r, y0, l0, c0⟩ := (H.out.row 0 rfl).at_ (i := 1 + i) (by rw [upM_len, LZ.out]; omega)
   have C0 := Ho.mk (And.intro l0 c0)
   clear l0 c0
   go_wp2_with fail
   (with_reducible refine (dOMul wr C0.out.1 half_ok.2.2.1).mono ?_); rintro e w5 ⟨q, rfl, l5, c5, b5⟩
   replace H := Ho.mk (H.out.grow b5)
   have C5 := Ho.mk (And.intro l5 (show cn q = fmul (nthN Z (1 + i)) (fng halfW) by rw [c5, C0.out.2, half_ok.2.2.2, upM_at (by rw [LZ.out]; omega), if_neg (by omega)]))
   clear y0 C0 l5 c5 b5
   obtain ⟨_, y0, _, _⟩ := (H.out.row 0 rfl).at_ (i := 1 + i) (by rw [upM_len, LZ.out]; omega)
   have x0 := (H.out.row 0 rfl).free (1 + i)
   go_wp2_with fail
   clear y0 x0
   replace H := Ho.mk (H.out.setF 0 rfl (1 + i) C5.out.1 C5.out.2)
   simp only [List.set_cons_zero, List.set_cons_succ] at H
   generalize World.setCell w5 ⟨g, 1 + i, none⟩ (.float .f64 q) = w6 at *
   have eU := upM_set (h := (fng halfW)) (o := 1) (i := i) (Z := Z) (by rw [LZ.out]; omega)
   skip
   rw [eU] at H
   clear eU
   go_roundw
   case rel => exact ⟨i + 1, by omega, by simp, H⟩
   case measure => simp [intOf]; omega
  ·obtain rfl : i = n := by omega
   go_wp2
   go_ret2
   have P : Part w wr 1 (some ⟨g, 1, none⟩) D := ⟨.inr ⟨g, _, rfl, H.out.row 0 rfl, H.out.ge _ (List.mem_cons_self ..), by rw [upM_len, LZ.out, LD.out]; omega, fun j hj => by
    rw [LD.out] at hj
    rw [upM_at (by rw [LZ.out]; omega), if_pos (by omega), DZ.out j hj]⟩⟩
   refine ⟨_, c4, by rw [LD.out]; rfl, ?_, P, H.out.bel⟩
   have I := fz_in (n := i + 1) (c := i + 1) (H.out.row 0 rfl) (by rw [upM_len, LZ.out]) (by omega) (Nat.le_refl _) (by omega)
   have J := in_part (c' := c4) (i := 1) (Y := D) I (by rw [upM_len, LZ.out]) LD.out (by omega) h1 h2 (fun j hj => by rw [upM_at (by rw [LZ.out]; omega), if_pos (by omega), DZ.out j hj])
   rw [LD.out]
   exact J
theorem dDst1 {A : Option Addr} {c n : Nat} {X : List Nat} {w : World} (T : Tab w) (hx : In w (.slice A n c) X) (hl : X.length ≤ 64) {Z : List Nat} {z : Int} (h1 : Z = d1R true X) (h2 : z = d1E true X) :
  Calls Tryz.prog 24 #[.slice A n c] w (MakesPE w 1 Z z) := by
 obtain rfl : X.length = n := by obtain ⟨A1, c1, e1, _⟩ := hx.out; cases e1; rfl
 obtain ⟨A1, c1, e1, k1, k2, k3, k4⟩ := hx.out
 cases e1
 have CM : Ho (Calls Tryz.prog 49 #[.iface 68 (.agg #[]), .slice A X.length c] w (MakesPE w 1 Z z)) := by
  cases hok : okS true X.length with
  | false =>
   have e1 : Z = [] := by rw [h1]; unfold d1R; rw [hok]; rfl
   have e2 : z = 2 := by rw [h2]; unfold d1E; rw [hok]; rfl
   rw [e1, e2]
   refine ⟨(dMade0s w T (by omega) hok).mono ?_⟩
   rintro e w' ⟨rfl, b⟩
   exact ⟨none, 0, rfl, ⟨none, 0, rfl, Nat.le_refl _, by decide, Fr.nil _ _, fun _ => rfl⟩, ⟨.inl rfl⟩, b⟩
  | true =>
   have e2 : z = 0 := by rw [h2]; unfold d1E; rw [hok]; rfl
   rw [h1, e2]
   have h0 : 0 < X.length := by
    have := okS_s hok
    have := Nat.two_pow_pos (pS true X.length)
    by_cases q : X.length = 0
    ·rw [q] at hok; exact absurd hok (by decide)
    ·omega
   cases A with
   | none => have := k4 rfl; omega
   | some ad => exact ⟨dMade1s w T hx rfl hl hok k1 k2⟩
 clear T hx hl h1 h2 k1 k2 k3 k4
 go_enter Tryz.func24, Tryz.ntmps24
 go_wp2_with fail
 (with_reducible refine CM.out.mono ?_); rintro e w1 ⟨A2, c2, rfl, i, p, b⟩
 have I := Ho.mk (And.intro i (And.intro p b))
 clear CM i p b
 go_wp2
 go_ret2
 exact ⟨A2, c2, rfl, I.out.1, I.out.2.1, I.out.2.2⟩
end Kf
namespace Lg
open Ieee Go Go.RowKit Go.Proofs Go.Proofs.YtalbgklfhabnkaaGreatDoor Ow Dt Gp I0 U0 W0 S4 S6 P0 M0 M1 M3 W4 W5 V2 P4 Y3 Yh Y1 P8 Pc Y5 Y6 Y7 Pk Lv Pj Le
open Go.Proofs.YtalbgklfhabnkaaGreatDoor.V1 (NI St ni_same ni_loop St.refl St.of_bel blk_keep ni_blk put_st)
open Go.Proofs.YtalbgklfhabnkaaGreatDoor.C6 (leaveAny)
open Go.Proofs.YtalbgklfhabnkaaGreatDoor.Pg (In)
attribute [local go_sem ↓] Go.wp_at_zero Go.wp_at_succ
theorem wpList_own {w : World} {ops : Array Oper} {rest : List Oper} {o : Oper} {a : Act} {Q : Exit → Act → World → Prop} (hgd : o.guard = none) (s x : Operand) (ho : o.op = .call { callee := .builtin .append, args := #[s, x], argTypes := #[25, 25] })
  {g c n : Nat} {A : Option Addr} {X : List Nat} (hs : a.eval s = .slice (some ⟨g, 0, none⟩) 0 0) (K0 : Blk w g 22 []) (hx : a.eval x = .slice A n c) (hin : In w (.slice A n c) X) (hl : X.length ≤ 100000) (hn : X.length = n)
  (h : ∀ A' c' w', RowF w' g (.slice A' n c') X → Gr g w w' → wpList Tryz.prog ops Q rest (a.put o.dst (.slice A' n c')) w') : wpList Tryz.prog ops Q (o :: rest) a w := by
 subst hn
 exact wpList_plain hgd fun K hK' => wp_app_in s x ho hs K0 hx hin hl (fun A' c' w' h1 h2 _ => hK' _ _ (h A' c' w' h1 h2))
theorem grow_own {W0 w w' : World} {g : Nat} {A : Option Addr} {n c : Nat} {X : List Nat} (hw : Bel W0 w) (hg : W0.heap.size ≤ g) (G : Gr g w w') (r : RowF w' g (.slice A n c) X) (h0 : 0 < X.length) : ∃ b, A = some ⟨b, 0, none⟩ ∧ n = X.length ∧ X.length ≤ c ∧ c ≤ 9223372036854775807 ∧ Hp W0 w' [.row b X] := by
 obtain ⟨b, c', e, h1, h2, f, l⟩ := r.at_ h0
 simp only [Value.slice.injEq] at e
 obtain ⟨e1, e2, rfl⟩ := e
 exact ⟨b, e1, e2, h1, h2, ⟨G.bel hw hg, fun x hx => by simp at hx; subst hx; exact Nat.le_trans hg l, by simp, fun x hx => by simp at hx; subst hx; exact f⟩⟩
theorem fz_inn {w : World} {b n c : Nat} {X : List Nat} (h : Fz w b X) (hn : X.length = n) (hl : n ≤ 100000) (h1 : n ≤ c) (h2 : c ≤ 9223372036854775807) : In w (.slice (some ⟨b, 0, none⟩) n c) X := by
 subst hn
 exact ⟨_, c, rfl, h1, h2, h.fr (by omega), fun e => by cases e⟩
end Lg
namespace Ln
open Ieee Go Go.RowKit Go.Proofs Go.Proofs.YtalbgklfhabnkaaGreatDoor Ow Dt Gp I0 U0 W0 S4 S6 P0 M0 M1 M3 W4 W5 V2 P4 Y3 Yh Y1 P8 Pc Y5 Y6 Y7 Pk Lv Pj Le Lg Z4 Kc
open Go.Proofs.YtalbgklfhabnkaaGreatDoor.Kf (d1R d1E pS okS_c okS_s Part MakesPE dDct1 dDst1)
open Go.Proofs.YtalbgklfhabnkaaGreatDoor.S4 (infoF)
open Go.Proofs.YtalbgklfhabnkaaGreatDoor.W1 (Nm)
open Go.Proofs.YtalbgklfhabnkaaGreatDoor.W2 (P2)
open Go.Proofs.YtalbgklfhabnkaaGreatDoor.V1 (NI St ni_same ni_loop St.refl St.of_bel blk_keep ni_blk put_st)
open Go.Proofs.YtalbgklfhabnkaaGreatDoor.C6 (leaveAny)
open Go.Proofs.YtalbgklfhabnkaaGreatDoor.Pg (In)
attribute [local go_sem ↓] Go.wp_at_zero Go.wp_at_succ
def MakesI (w : World) (Z : List Nat) (z : Int) (e : Ending) (w' : World) : Prop := ∃ A c, e = .returned (.tuple #[.slice A Z.length c, .int .i64 z]) ∧ In w' (.slice A Z.length c) Z ∧ Bel w w'
theorem idI {w : World} {v : Value} {Z : List Nat} (h : In w v Z) (_ : Z.length ≤ 100000) : In w v Z := h
section
variable {A : Option Addr} {n c : Nat} {X : List Nat} {w : World}
theorem pDct1 (T : Tab w) (hx : In w (.slice A n c) X) (hl : X.length ≤ 64) {Z : List Nat} {z : Int} (h1 : Z = d1R false X) (h2 : z = d1E false X) :
  Calls Tryz.prog 23 #[.slice A n c] w (MakesI w Z z) := by
 refine (dDct1 T hx hl h1 h2).mono ?_
 rintro e w' ⟨A, c, rfl, i, _, b⟩; exact ⟨A, c, rfl, i, b⟩
theorem pDst1 (T : Tab w) (hx : In w (.slice A n c) X) (hl : X.length ≤ 64) {Z : List Nat} {z : Int} (h1 : Z = d1R true X) (h2 : z = d1E true X) :
  Calls Tryz.prog 24 #[.slice A n c] w (MakesI w Z z) := by
 refine (dDst1 T hx hl h1 h2).mono ?_
 rintro e w' ⟨A, c, rfl, i, _, b⟩; exact ⟨A, c, rfl, i, b⟩
end
theorem d1_yes {s : Bool} {X : List Nat} (h : okS s X.length = true) : (d1R s X).length = X.length ∧ d1E s X = 0 := by
 refine ⟨?_, by unfold d1E; rw [h]; rfl⟩
 unfold d1R; rw [h]
 cases s
 ·have := (okS_c h).1; simp [dct1N_len]; omega
 ·have := (okS_s h).1; simp [dst1N_len]; omega
theorem d1_no {s : Bool} {X : List Nat} (h : okS s X.length = false) : d1R s X = [] ∧ d1E s X = 2 := ⟨by unfold d1R; rw [h]; rfl, by unfold d1E; rw [h]; rfl⟩
theorem head18_0 : d1R false [4607182418800017408, 4611686018427387904, 4613937818241073152] = [4616189618054758400, 13830554455654793216, 0] ∧ d1E false [4607182418800017408, 4611686018427387904, 4613937818241073152] = 0 := by decide +kernel
theorem head18_1 : d1R true [4613937818241073152] = [4613937818241073152] ∧ d1E true [4613937818241073152] = 0 := by decide +kernel
theorem head18_2 : d1R false [4607182418800017408, 4611686018427387904] = [] ∧ d1E false [4607182418800017408, 4611686018427387904] = 2 := by decide +kernel
theorem head18_3 : d1R true [] = [] ∧ d1E true [] = 2 := by decide +kernel
theorem head18 (w : World) (T : Tab w) : Calls Tryz.prog 22 #[] w (fun e w' => e = .returned (.bool true) ∧ Bel w w') := by
 have TT := Ho.mk T
 clear T
 go_enter Tryz.func22, Tryz.ntmps22
 go_wp2_with fail
 have K0 := Ho.mk (Blk.new w [.float .f64 4607182418800017408, .float .f64 4611686018427387904, .float .f64 4613937818241073152] 22)
 have g1 := Ho.mk ((Bel.refl w).alloc (.cells #[.float .f64 4607182418800017408, .float .f64 4611686018427387904, .float .f64 4613937818241073152] 22))
 generalize w.alloc (.cells #[.float .f64 4607182418800017408, .float .f64 4611686018427387904, .float .f64 4613937818241073152] 22) = v2 at *
 have R3 := Ho.mk (litRow (X := [4607182418800017408, 4611686018427387904, 4613937818241073152]) K0.out rfl (by decide) (n := 3) rfl (by decide))
 obtain ⟨Z0, hZ0⟩ : ∃ Z : List Nat, Z = [4616189618054758400, 13830554455654793216, 0] := ⟨_, rfl⟩
 have C4 := Ho.mk (pDct1 (TT.out.bel g1.out) (inn R3.out (by decide)) (by decide) (Z := Z0) (z := 0) (hZ0.trans head18_0.1.symm) head18_0.2.symm)
 (with_reducible refine C4.out.mono ?_); rintro e v5 ⟨Q0, c0, rfl, t0, b6⟩
 have b6H := Ho.mk b6
 have T0 := Ho.mk t0
 clear C4 b6 t0
 have HZ0 := Ho.mk hZ0
 clear hZ0
 go_wp2_with fail
 have K1 := Ho.mk (Blk.new v5 [.float .f64 4613937818241073152] 22)
 have g7 := Ho.mk ((Bel.refl v5).alloc (.cells #[.float .f64 4613937818241073152] 22))
 generalize v5.alloc (.cells #[.float .f64 4613937818241073152] 22) = v8 at *
 have R9 := Ho.mk (litRow (X := [4613937818241073152]) K1.out rfl (by decide) (n := 1) rfl (by decide))
 obtain ⟨Z1, hZ1⟩ : ∃ Z : List Nat, Z = [4613937818241073152] := ⟨_, rfl⟩
 have C10 := Ho.mk (pDst1 (TT.out.bel ((g1.out.trans b6H.out).trans g7.out)) (inn R9.out (by decide)) (by decide) (Z := Z1) (z := 0) (hZ1.trans head18_1.1.symm) head18_1.2.symm)
 (with_reducible refine C10.out.mono ?_); rintro e v11 ⟨Q1, c1, rfl, t1, b12⟩
 have b12H := Ho.mk b12
 have T1 := Ho.mk t1
 clear C10 b12 t1
 have HZ1 := Ho.mk hZ1
 clear hZ1
 go_wp2_with fail
 have K2 := Ho.mk (Blk.new v11 [.float .f64 4607182418800017408, .float .f64 4611686018427387904] 22)
 have g13 := Ho.mk ((Bel.refl v11).alloc (.cells #[.float .f64 4607182418800017408, .float .f64 4611686018427387904] 22))
 generalize v11.alloc (.cells #[.float .f64 4607182418800017408, .float .f64 4611686018427387904] 22) = v14 at *
 have R15 := Ho.mk (litRow (X := [4607182418800017408, 4611686018427387904]) K2.out rfl (by decide) (n := 2) rfl (by decide))
 obtain ⟨Z2, hZ2⟩ : ∃ Z : List Nat, Z = [] := ⟨_, rfl⟩
 have C16 := Ho.mk (pDct1 (TT.out.bel ((((g1.out.trans b6H.out).trans g7.out).trans b12H.out).trans g13.out)) (inn R15.out (by decide)) (by decide) (Z := Z2) (z := 2) (hZ2.trans head18_2.1.symm) head18_2.2.symm)
 (with_reducible refine C16.out.mono ?_); rintro e v17 ⟨Q2, c2, rfl, t2, b18⟩
 have b18H := Ho.mk b18
 have T2 := Ho.mk t2
 clear C16 b18 t2
 clear hZ2
 go_wp2_with fail
 obtain ⟨Z3, hZ3⟩ : ∃ Z : List Nat, Z = [] := ⟨_, rfl⟩
 have C19 := Ho.mk (pDst1 (TT.out.bel (((((g1.out.trans b6H.out).trans g7.out).trans b12H.out).trans g13.out).trans b18H.out)) (in_nil _ none) (by decide) (Z := Z3) (z := 2) (hZ3.trans head18_3.1.symm) head18_3.2.symm)
 (with_reducible refine C19.out.mono ?_); rintro e v20 ⟨Q3, c3, rfl, t3, b21⟩
 have b21H := Ho.mk b21
 have T3 := Ho.mk t3
 clear C19 b21 t3
 clear hZ3
 go_wp2_with fail
 have M0 := Ho.mk (Blk.new v20 [.float .f64 4616189618054758400, .float .f64 13830554455654793216, .float .f64 0] 22)
 have g22 := Ho.mk ((Bel.refl v20).alloc (.cells #[.float .f64 4616189618054758400, .float .f64 13830554455654793216, .float .f64 0] 22))
 generalize v20.alloc (.cells #[.float .f64 4616189618054758400, .float .f64 13830554455654793216, .float .f64 0] 22) = v23 at *
 have R24 := Ho.mk (litRow (X := [4616189618054758400, 13830554455654793216, 0]) M0.out rfl (by decide) (n := 3) rfl (by decide))
 have C25 := Ho.mk (pSameRow (z := true) (idI (T0.out.bel (((((g7.out.trans b12H.out).trans g13.out).trans b18H.out).trans b21H.out).trans g22.out)) (by rw [HZ0.out]; decide)) (inn R24.out (by decide)) (by rw [HZ0.out]; decide) (by decide) (by rw [HZ0.out]; decide))
 (with_reducible refine C25.out.mono ?_); rintro e v26 ⟨rfl, b27⟩
 have b27H := Ho.mk b27
 clear C25 b27
 go_wp2_with fail
 have M1 := Ho.mk (Blk.new v26 [.float .f64 4613937818241073152] 22)
 have g28 := Ho.mk ((Bel.refl v26).alloc (.cells #[.float .f64 4613937818241073152] 22))
 generalize v26.alloc (.cells #[.float .f64 4613937818241073152] 22) = v29 at *
 have R30 := Ho.mk (litRow (X := [4613937818241073152]) M1.out rfl (by decide) (n := 1) rfl (by decide))
 have C31 := Ho.mk (pSameRow (z := true) (idI (T1.out.bel (((((g13.out.trans b18H.out).trans b21H.out).trans g22.out).trans b27H.out).trans g28.out)) (by rw [HZ1.out]; decide)) (inn R30.out (by decide)) (by rw [HZ1.out]; decide) (by decide) (by rw [HZ1.out]; decide))
 (with_reducible refine C31.out.mono ?_); rintro e v32 ⟨rfl, b33⟩
 have b33H := Ho.mk b33
 clear C31 b33
 go_wp2
 go_ret
 exact ⟨rfl, ((((((((((g1.out.trans b6H.out).trans g7.out).trans b12H.out).trans g13.out).trans b18H.out).trans b21H.out).trans g22.out).trans b27H.out).trans g28.out).trans b33H.out)⟩
end Ln
end Go.Proofs.YtalbgklfhabnkaaGreatDoor
