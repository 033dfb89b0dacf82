/-
  Joined, of what this claim leans on: Ow, Pl, N1, N2, N3, N4, N5, N6, R2, Ox, Dp, Dq, Dr, D1, D2, D3, D4, D5, D6, Dt, Pd, Na, N9, N8, E1, E2, E3, E4, E5, D9, E6, F1.
-/
import Derived.Below
import Derived.WalkKit
import Derived.KernelRfl
import Derived.WalkLawsBesides
import Derived.Laws.EntriesVeiled
import Derived.RowKit3
import Derived.Deep.Draws
import Derived.Deep.OwnRows
import Derived.Laws.CopyOwn
import Derived.Laws.OwnMore
import Derived.Laws.MakeOwn
import Derived.Test.YtalbgklfhabnkaaGreatDoorProg
import Derived.LoopTactic
import Derived.Deep.LoopGhost
import Derived.Outline
import Derived.Laws.Slices
import Derived.Deep.QuietTactic
import Derived.BigQuiet
import Derived.Deep.RegionLaw
import Derived.Deep.RegionHeld3
import Derived.Test.YtalbgklfhabnkaaGreatDoorRows
import Derived.ProofKit
import Derived.OpenShut
import Derived.ShutString
import Derived.ChangeOld
import Derived.SizedLaws
import Derived.LaidMore
import Derived.Stop.Joined
import Derived.Stop.LaidErr
import Derived.Lib.LaidTab
import Derived.Deep.Strs
import Derived.Lib.SliceRun
import Derived.RegionTactic
import Derived.StillTailTactics
import Derived.IntWalk
import Derived.Deep.DeepCutAuto
set_option linter.unusedVariables false
set_option linter.unusedSimpArgs false
set_option maxRecDepth 100000
set_option maxHeartbeats 16000000
namespace Go.Proofs.YtalbgklfhabnkaaGreatDoor
namespace Ow
open Go.RowKit
structure Bel (w w' : World) : Prop where
 out : Below w.heap.size w w'
theorem Bel.refl (w : World) : Bel w w := ⟨Below.refl _ _⟩
theorem Bel.size {a b : World} (h : Bel a b) : a.heap.size ≤ b.heap.size := h.out.size
theorem Bel.trans {a b c : World} (h : Bel a b) (k : Bel b c) : Bel a c := ⟨h.out.trans (k.out.mono h.out.size)⟩
theorem Bel.drew {a b : World} (h : Bel a b) : Bel a b.drew := ⟨h.out.drew⟩
theorem Bel.drewN {a b : World} (h : Bel a b) (n : Nat) : Bel a (b.drewN n) := h.trans ⟨⟨rfl, rfl, rfl, Nat.le_refl _, fun _ _ => rfl⟩⟩
theorem Bel.alloc {a b : World} (h : Bel a b) (o : Obj) : Bel a (b.alloc o) := ⟨h.out.alloc h.out.size o⟩
theorem Bel.block {a b : World} (h : Bel a b) {k : Nat} (hk : k < a.heap.size) : b.heap[k]? = a.heap[k]? := h.out.block k hk
theorem Bel.cell {a b : World} (h : Bel a b) {p : Addr} {v : Value} (hc : a.cell? p = some v) : b.cell? p = some v :=
 (h.out.cell (World.block_lt_of_cell? a p hc)).trans hc
def nth (l : List Int) (i : Nat) : Int := l.getD i 0
theorem nth_lt {l : List Int} {i : Nat} (h : i < l.length) : nth l i = l[i] := by simp [nth, h]
theorem nth_ge {l : List Int} {i : Nat} (h : l.length ≤ i) : nth l i = 0 := by simp [nth, h]
structure Rd (w : World) (A : Option Addr) (l : List Int) : Prop where
 max : l.length ≤ 35184372088831
 cell : ∀ j, j < l.length → ∃ ad, A = some ad ∧ w.cell? (ad.add j) = some (.int .i64 (nth l j))
theorem Rd.nil (w : World) (A : Option Addr) : Rd w A [] := ⟨by simp, fun j hj => by simp at hj⟩
theorem Rd.bel {w w' : World} {A : Option Addr} {l : List Int} (h : Rd w A l) (hb : Bel w w') : Rd w' A l :=
 ⟨h.max, fun j hj => by obtain ⟨ad, e, hc⟩ := h.cell j hj; exact ⟨ad, e, hb.cell hc⟩⟩
theorem Rd.take {w : World} {A : Option Addr} {l : List Int} (h : Rd w A l) (n : Nat) : Rd w A (l.take n) :=
 ⟨by have := h.max; simp; omega, fun j hj => by
  have hj' : j < l.length := by simp at hj; omega
  have hjn : j < n := by simp at hj; omega
  obtain ⟨ad, e, hc⟩ := h.cell j hj'
  refine ⟨ad, e, ?_⟩
  rw [hc]; simp [nth, List.getD_eq_getElem?_getD, hjn]⟩
theorem Rd.at_ {w : World} {A : Option Addr} {l : List Int} (h : Rd w A l) (i : Int) (h0 : 0 ≤ i) (h1 : i < l.length) :
  ∃ ad, A = some ad ∧ w.cell? (ad.add i.toNat) = some (.int .i64 (nth l i.toNat)) := h.cell i.toNat (by omega)
theorem add_block (a : Addr) (n : Nat) : (a.add n).block = a.block := by unfold Addr.add; split <;> rfl
theorem add_add (a : Addr) (m n : Nat) : (a.add m).add n = a.add (m + n) := by
 unfold Addr.add
 by_cases h1 : m = 0
 ·subst h1; simp
 ·by_cases h2 : n = 0
  ·subst h2; simp
  ·simp [h1, h2, Nat.add_assoc]
theorem Rd.drop {w : World} {ad : Addr} {l : List Int} (h : Rd w (some ad) l) (n : Nat) : Rd w (some (ad.add n)) (l.drop n) :=
 ⟨by have := h.max; rw [List.length_drop]; omega, fun j hj => by
  rw [List.length_drop] at hj
  obtain ⟨ad', e, hc⟩ := h.cell (n + j) (by omega)
  cases e
  exact ⟨_, rfl, by rw [add_add, hc]; simp [nth]⟩⟩
structure RdB (B : Nat) (w : World) (A : Option Addr) (l : List Int) : Prop where
 rd : Rd w A l
 lt : ∀ ad, A = some ad → 0 < l.length → ad.block < B
theorem Rd.rdB {w : World} {A : Option Addr} {l : List Int} (h : Rd w A l) : RdB w.heap.size w A l :=
 ⟨h, fun ad e hl => by
  obtain ⟨ad', e', hc⟩ := h.cell 0 hl
  have := World.block_lt_of_cell? w _ hc
  rw [add_block] at this
  rw [e] at e'; cases e'; exact this⟩
theorem RdB.below {B : Nat} {w w' : World} {A : Option Addr} {l : List Int} (h : RdB B w A l) (hb : Below B w w') : Rd w' A l :=
 ⟨h.rd.max, fun j hj => by
  obtain ⟨ad, e, hc⟩ := h.rd.cell j hj
  exact ⟨ad, e, (hb.cell (by rw [add_block]; exact h.lt ad e (by omega))).trans hc⟩⟩
theorem RdB.bel {B : Nat} {w w' : World} {A : Option Addr} {l : List Int} (h : RdB B w A l) (hb : Bel w w') : RdB B w' A l := ⟨h.rd.bel hb, h.lt⟩
structure Ho (p : Prop) : Prop where
 out : p
structure Blk (w : World) (b : Nat) (t : TypeId) (cs : List Value) : Prop where
 out : w.heap[b]? = some (.cells cs.toArray t (0, 0))
theorem Blk.lt {w : World} {b : Nat} {t : TypeId} {cs : List Value} (h : Blk w b t cs) : b < w.heap.size := by
 rcases Nat.lt_or_ge b w.heap.size with h' | h'
 ·exact h'
 ·have := h.out; simp [Array.getElem?_eq_none h'] at this
theorem Blk.cell {w : World} {b : Nat} {t : TypeId} {cs : List Value} (h : Blk w b t cs) {i : Nat} {v : Value} (hv : cs[i]? = some v) : w.cell? ⟨b, i, none⟩ = some v := by
 simp [World.cell?, h.out, hv]
theorem Blk.c2 {w : World} {b : Nat} {t : TypeId} {v0 v1 : Value} {cs : List Value} (h : Blk w b t (v0 :: v1 :: cs)) : w.cell? ⟨b, 0, none⟩ = some v0 ∧ w.cell? ⟨b, 1, none⟩ = some v1 :=
 ⟨h.cell (i := 0) rfl, h.cell (i := 1) rfl⟩
theorem Blk.c3 {w : World} {b : Nat} {t : TypeId} {v0 v1 v2 : Value} {cs : List Value} (h : Blk w b t (v0 :: v1 :: v2 :: cs)) : w.cell? ⟨b, 0, none⟩ = some v0 ∧ w.cell? ⟨b, 1, none⟩ = some v1 ∧ w.cell? ⟨b, 2, none⟩ = some v2 :=
 ⟨h.cell (i := 0) rfl, h.cell (i := 1) rfl, h.cell (i := 2) rfl⟩
theorem Blk.c4 {w : World} {b : Nat} {t : TypeId} {v0 v1 v2 v3 : Value} {cs : List Value} (h : Blk w b t (v0 :: v1 :: v2 :: v3 :: cs)) : w.cell? ⟨b, 0, none⟩ = some v0 ∧ w.cell? ⟨b, 1, none⟩ = some v1 ∧ w.cell? ⟨b, 2, none⟩ = some v2 ∧ w.cell? ⟨b, 3, none⟩ = some v3 :=
 ⟨h.cell (i := 0) rfl, h.cell (i := 1) rfl, h.cell (i := 2) rfl, h.cell (i := 3) rfl⟩
theorem Blk.c6 {w : World} {b : Nat} {t : TypeId} {v0 v1 v2 v3 v4 v5 : Value} {cs : List Value} (h : Blk w b t (v0 :: v1 :: v2 :: v3 :: v4 :: v5 :: cs)) : w.cell? ⟨b, 0, none⟩ = some v0 ∧ w.cell? ⟨b, 1, none⟩ = some v1 ∧ w.cell? ⟨b, 2, none⟩ = some v2 ∧ w.cell? ⟨b, 3, none⟩ = some v3 ∧ w.cell? ⟨b, 4, none⟩ = some v4 ∧ w.cell? ⟨b, 5, none⟩ = some v5 :=
 ⟨h.cell (i := 0) rfl, h.cell (i := 1) rfl, h.cell (i := 2) rfl, h.cell (i := 3) rfl, h.cell (i := 4) rfl, h.cell (i := 5) rfl⟩
theorem Blk.c12 {w : World} {b : Nat} {t : TypeId} {v0 v1 v2 v3 v4 v5 v6 v7 v8 v9 v10 v11 : Value} {cs : List Value} (h : Blk w b t (v0 :: v1 :: v2 :: v3 :: v4 :: v5 :: v6 :: v7 :: v8 :: v9 :: v10 :: v11 :: cs)) : w.cell? ⟨b, 0, none⟩ = some v0 ∧ w.cell? ⟨b, 1, none⟩ = some v1 ∧ w.cell? ⟨b, 2, none⟩ = some v2 ∧ w.cell? ⟨b, 3, none⟩ = some v3 ∧ w.cell? ⟨b, 4, none⟩ = some v4 ∧ w.cell? ⟨b, 5, none⟩ = some v5 ∧ w.cell? ⟨b, 6, none⟩ = some v6 ∧ w.cell? ⟨b, 7, none⟩ = some v7 ∧ w.cell? ⟨b, 8, none⟩ = some v8 ∧ w.cell? ⟨b, 9, none⟩ = some v9 ∧ w.cell? ⟨b, 10, none⟩ = some v10 ∧ w.cell? ⟨b, 11, none⟩ = some v11 :=
 ⟨h.cell (i := 0) rfl, h.cell (i := 1) rfl, h.cell (i := 2) rfl, h.cell (i := 3) rfl, h.cell (i := 4) rfl, h.cell (i := 5) rfl, h.cell (i := 6) rfl, h.cell (i := 7) rfl, h.cell (i := 8) rfl, h.cell (i := 9) rfl, h.cell (i := 10) rfl, h.cell (i := 11) rfl⟩
theorem zS {α : Type} (l : List α) (i : Nat) (a : α) : l.toArray.setIfInBounds i a = (l.set i a).toArray := List.setIfInBounds_toArray l i a
theorem zC {α : Type} {x : α} {xs : List α} {a : α} : (x :: xs).set 0 a = a :: xs := List.set_cons_zero
theorem zD {α : Type} {x : α} {xs : List α} {i : Nat} {a : α} : (x :: xs).set (i + 1) a = x :: xs.set i a := List.set_cons_succ
theorem Blk.free {w : World} {b : Nat} {t : TypeId} {cs : List Value} (h : Blk w b t cs) (i : Nat) : w.frozen? ⟨b, i, none⟩ = false := by
 simp [World.frozen?, h.out]
theorem Blk.bel {w w' : World} {b : Nat} {t : TypeId} {cs : List Value} (h : Blk w b t cs) (hb : Bel w w') : Blk w' b t cs := ⟨by rw [hb.block h.lt]; exact h.out⟩
theorem Blk.drew {w : World} {b : Nat} {t : TypeId} {cs : List Value} (h : Blk w b t cs) : Blk w.drew b t cs := ⟨h.out⟩
theorem Blk.drewN {w : World} {b : Nat} {t : TypeId} {cs : List Value} (h : Blk w b t cs) (n : Nat) : Blk (w.drewN n) b t cs := ⟨h.out⟩
theorem Blk.new (w : World) (cs : List Value) (t : TypeId) : Blk (w.alloc (.cells cs.toArray t)) w.heap.size t cs := ⟨by
 show (w.heap.push _)[w.heap.size]? = _
 simp⟩
theorem Blk.old {w : World} {b : Nat} {t : TypeId} {cs : List Value} (h : Blk w b t cs) (o : Obj) : Blk (w.alloc o) b t cs := h.bel ((Bel.refl w).alloc o)
theorem Blk.set {w : World} {b : Nat} {t : TypeId} {cs : List Value} (h : Blk w b t cs) (i : Nat) (v : Value) : Blk (w.setCell ⟨b, i, none⟩ v) b t (cs.set i v) := ⟨by
 have hlt := h.lt
 have h' : w.heap[b] = .cells cs.toArray t (0, 0) := by have := h.out; rw [Array.getElem?_eq_getElem hlt] at this; exact Option.some.inj this
 show (w.heap.modify b _)[b]? = _
 rw [Array.getElem?_eq_getElem (by simpa using hlt), Array.getElem_modify_self, h']
 simp⟩
theorem Blk.far {w : World} {b : Nat} {t : TypeId} {cs : List Value} (h : Blk w b t cs) {p : Addr} (hp : b ≠ p.block) (v : Value) : Blk (w.setCell p v) b t cs := ⟨by
 rw [Below.heap_setCell w p v b hp]; exact h.out⟩
theorem Blk.below {B : Nat} {w w' : World} {b : Nat} {t : TypeId} {cs : List Value} (h : Blk w b t cs) (hb : Below B w w') (hB : b < B) : Blk w' b t cs := ⟨by rw [hb.block b hB]; exact h.out⟩
theorem wpList_mk {P : Program} (w : World) {ops : Array Oper} {rest : List Oper} {o : Oper} {a : Act} {Q : Exit → Act → World → Prop}
  (hg : o.guard = none) (l c : Operand) (t : TypeId) (hop : o.op = Op.makeSlice t l c)
  (e : TypeId) (z : Value) (bytes : Nat) (ht : P.underlying t = some (.slice e)) (hinfo : (P.info? e).map (fun i => (i.zero, i.size, i.bytes)) = some (some z, 1, bytes)) (hz1 : z.cells = #[z])
  (n : Nat) (hl : a.eval l = .int .i64 (n : Int)) (hc : a.eval c = .int .i64 (n : Int)) (hbytes : bytes * n ≤ 281474976710656) (h63 : n ≤ 9223372036854775807)
  (hK : ∀ w', Blk w' w.heap.size e (List.replicate n z) → Bel w w' → w'.heap.size = w.heap.size + 1 → wpList P ops Q rest (a.put o.dst (.slice (some ⟨w.heap.size, 0, none⟩) n n)) w') :
  wpList P ops Q (o :: rest) a w := by
 obtain ⟨i, hi, hzz⟩ := Option.map_eq_some_iff.1 hinfo
 simp only [Prod.mk.injEq] at hzz
 obtain ⟨hz, hs, hb⟩ := hzz
 refine wpList_make_row w hg l c t hop e i z ht hi hz hs hz1 .i64 .i64 n hl hc (by rw [hb]; exact hbytes) h63 ?_
 have e1 : madeCells #[z] n = (List.replicate n z).toArray := by rw [← toList_madeCells_one]
 rw [e1]
 exact hK _ (Blk.new _ _ _) ((Bel.refl w).alloc _) (by simp)
def ints (l : List Int) : List Value := l.map (.int .i64)
theorem ints_len (l : List Int) : (ints l).length = l.length := by simp [ints]
theorem owInts_at (l : List Int) {i : Nat} (h : i < l.length) : (ints l)[i]? = some (.int .i64 (nth l i)) := by simp [ints, nth, h]
theorem ints_set (l : List Int) (i : Nat) (v : Int) : (ints l).set i (.int .i64 v) = ints (l.set i v) := by simp [ints, List.map_set]
theorem ints_rep (n : Nat) : List.replicate n (.int .i64 0) = ints (List.replicate n 0) := by simp [ints]
theorem Blk.rd {w : World} {b : Nat} {t : TypeId} {l : List Int} (h : Blk w b t (ints l)) (hm : l.length ≤ 35184372088831) : Rd w (some ⟨b, 0, none⟩) l :=
 ⟨hm, fun j hj => ⟨_, rfl, by
  have e : (⟨b, 0, none⟩ : Addr).add j = ⟨b, j, none⟩ := by unfold Addr.add; split <;> simp_all
  rw [e]; exact h.cell (owInts_at l hj)⟩⟩
structure OwnI (w : World) (B e sz : Nat) (v : Value) (n : Nat) (cs : List Value) : Prop where
 out : w.ownsRow B e sz v n cs
theorem OwnI.nil (w : World) (B e sz : Nat) : OwnI w B e sz (.slice none 0 0) 0 [] := ⟨World.ownsRow_nil w B e sz⟩
theorem OwnI.bel {w w' : World} {B e sz : Nat} {v : Value} {n : Nat} {cs : List Value} (h : OwnI w B e sz v n cs) (hb : Bel w w') : OwnI w' B e sz v n cs :=
 ⟨h.out.kept (row := none) ⟨hb.out.os, hb.out.tape, hb.out.output, hb.out.size, fun i hi _ => hb.out.block i hi⟩ (by cases v.ownBlock <;> simp)⟩
theorem OwnI.drew {w : World} {B e sz : Nat} {v : Value} {n : Nat} {cs : List Value} (h : OwnI w B e sz v n cs) : OwnI w.drew B e sz v n cs := h.bel (Bel.refl w).drew
theorem OwnI.far {w : World} {B e sz : Nat} {v : Value} {n : Nat} {cs : List Value} (h : OwnI w B e sz v n cs) {p : Addr} (hp : v.ownBlock ≠ some p.block) (u : Value) : OwnI (w.setCell p u) B e sz v n cs :=
 ⟨h.out.kept (row := some p.block) ⟨rfl, rfl, rfl, by simp [World.setCell], fun i hi hne => Below.heap_setCell w p u i (fun e => hne (by rw [e]))⟩ (by
  cases hv : v.ownBlock with
  | none => exact .inl rfl
  | some k => exact .inr (by rw [← hv]; exact hp))⟩
theorem OwnI.slice {w : World} {B e sz : Nat} {v : Value} {n : Nat} {cs : List Value} (h : OwnI w B e sz v n cs) : ∃ A c, v = .slice A n c ∧ n ≤ c := by
 rcases h.out.2 with ⟨rfl, rfl⟩ | ⟨g, cap, cur, rfl, _, _, h1, _⟩
 ·exact ⟨_, _, rfl, Nat.le_refl _⟩
 ·exact ⟨_, _, rfl, h1⟩
theorem OwnI.rd {w : World} {B e : Nat} {v : Value} {l : List Int} (h : OwnI w B e 1 v l.length (ints l)) (hm : l.length ≤ 35184372088831) : ∃ A c, v = .slice A l.length c ∧ l.length ≤ c ∧ Rd w A l := by
 rcases h.out.2 with ⟨rfl, hn⟩ | ⟨g, cap, cur, rfl, _, _, h1, _⟩
 ·have : l = [] := List.length_eq_zero_iff.1 hn
  subst this
  exact ⟨_, _, rfl, Nat.le_refl _, Rd.nil _ _⟩
 ·exact ⟨_, _, rfl, h1, hm, fun j hj => ⟨_, rfl, h.out.cells (g := g) rfl j _ (owInts_at l hj)⟩⟩
theorem OwnI.form {w : World} {B e : Nat} {v : Value} {n : Nat} {cs : List Value} (h : OwnI w B e 1 v n cs) (hn : 0 < n) : ∃ g cap, v = .slice (some ⟨g, 0, none⟩) n cap ∧ n ≤ cap ∧ B ≤ g ∧ g < w.heap.size := by
 rcases h.out.2 with ⟨rfl, h0⟩ | ⟨g, cap, cur, rfl, hg, hb, h1, _⟩
 ·omega
 ·exact ⟨g, cap, rfl, h1, hg, (Array.getElem?_eq_some_iff.1 hb).1⟩
theorem OwnI.cell {w : World} {B e g cap n : Nat} {cs : List Value} (h : OwnI w B e 1 (.slice (some ⟨g, 0, none⟩) n cap) n cs) {j : Nat} {u : Value} (hj : cs[j]? = some u) : w.cell? ⟨g, j, none⟩ = some u := by
 have hl : j < n * 1 := by
  have := h.out.1
  rcases Nat.lt_or_ge j cs.length with h' | h'
  ·omega
  ·rw [List.getElem?_eq_none h'] at hj; cases hj
 rw [h.out.cellAt j hl, hj]
theorem OwnI.free {w : World} {B e g cap n : Nat} {cs : List Value} (h : OwnI w B e 1 (.slice (some ⟨g, 0, none⟩) n cap) n cs) (j : Nat) : w.frozen? ⟨g, j, none⟩ = false := h.out.frozenAt j
theorem OwnI.set {w : World} {B e g cap n : Nat} {cs : List Value} (h : OwnI w B e 1 (.slice (some ⟨g, 0, none⟩) n cap) n cs) (j : Nat) (u : Value) : OwnI (w.setCell ⟨g, j, none⟩ u) B e 1 (.slice (some ⟨g, 0, none⟩) n cap) n (cs.set j u) := ⟨(h.out.stored j u).1⟩
theorem wpList_app {P : Program} (w : World) {ops : Array Oper} {rest : List Oper} {o : Oper} {a : Act} {Q : Exit → Act → World → Prop} (hgd : o.guard = none) (s x : Operand) (t : TypeId)
  (ho : o.op = .call { callee := .builtin .append, args := #[s, x], argTypes := #[t, t] })
  (B e : Nat) (z : Value) (bytes : Nat) (ht : P.underlying t = some (.slice e)) (hinfo : (P.info? e).map (fun i => (i.zero, i.size, i.bytes)) = some (some z, 1, bytes)) (hz1 : z.cells = #[z])
  (v : Value) (n : Nat) (cs : List Value) (u : Value) (hs : a.eval s = v) (hown : OwnI w B e 1 v n cs) (hx : a.eval x = .slice (some ⟨w.heap.size, 0, none⟩) 1 1) (hu : u.oneCell' = true)
  (h63 : n < 1000000000000) (hbytes : bytes ≤ 100) (hB : B ≤ w.heap.size)
  (hK : ∀ v' w', OwnI w' B e 1 v' (n + 1) (cs ++ [u]) → Below B w w' → wpList P ops Q rest (a.put o.dst v') w') :
  wpList P ops Q (o :: rest) a (w.alloc (.cells #[u] e)) := by
 obtain ⟨i, hi, hzz⟩ := Option.map_eq_some_iff.1 hinfo
 simp only [Prod.mk.injEq] at hzz
 obtain ⟨hz, hsz, hb⟩ := hzz
 refine wpList_append_own _ hgd s x t ho B e i z 1 bytes ht hi hz hsz hb (by rw [hz1]; rfl) (by decide) v n cs hs (hown.out.alloc _) ⟨w.heap.size, 0, none⟩ 1 1 [u] hx rfl ?_ ?_ ?_ ?_ ?_ ?_
 ·intro j u' hj
  cases j with
  | zero => simp at hj; subst hj; simp [Addr.add]
  | succ j => simp at hj
 ·intro u' hu'; simp at hu'; subst hu'; exact hu
 ·simp only [maxLen]; omega
 ·have : (n + 1) * bytes ≤ 1000000000000 * 100 := Nat.mul_le_mul (by omega) hbytes
  omega
 ·simp; omega
 ·intro v' w' h1 h2 _
  refine hK v' w' ⟨h1⟩ ?_
  have hA : Below B w (w.alloc (.cells #[u] e)) := (Below.refl B w).alloc hB _
  refine hA.grown h2 (by simp; omega) (fun k hk => ?_)
  rcases hown.out.2 with ⟨rfl, _⟩ | ⟨g, cap, cur, rfl, hg, _⟩
  ·simp [Value.ownBlock] at hk
  ·simp [Value.ownBlock] at hk; omega
theorem wpList_apps {P : Program} (w : World) {ops : Array Oper} {rest : List Oper} {o : Oper} {a : Act} {Q : Exit → Act → World → Prop} (hgd : o.guard = none) (s x : Operand) (t : TypeId)
  (ho : o.op = .call { callee := .builtin .append, args := #[s, x], argTypes := #[t, t] })
  (B e : Nat) (z : Value) (bytes : Nat) (ht : P.underlying t = some (.slice e)) (hinfo : (P.info? e).map (fun i => (i.zero, i.size, i.bytes)) = some (some z, 1, bytes)) (hz1 : z.cells = #[z])
  (v : Value) (n : Nat) (cs : List Value) (hs : a.eval s = v) (hown : OwnI w B e 1 v n cs) (ad : Addr) (m c : Nat) (news : List Value) (hx : a.eval x = .slice (some ad) m c) (hm : news.length = m)
  (hnews : ∀ j u, news[j]? = some u → w.cell? (ad.add j) = some u) (h1 : ∀ u ∈ news, u.oneCell' = true)
  (h63 : n + m ≤ 1000000000000) (hbytes : bytes ≤ 100) (hB : B ≤ w.heap.size)
  (hK : ∀ v' w', OwnI w' B e 1 v' (n + m) (cs ++ news) → Below B w w' → wpList P ops Q rest (a.put o.dst v') w') :
  wpList P ops Q (o :: rest) a w := by
 obtain ⟨i, hi, hzz⟩ := Option.map_eq_some_iff.1 hinfo
 simp only [Prod.mk.injEq] at hzz
 obtain ⟨hz, hsz, hb⟩ := hzz
 refine wpList_append_own _ hgd s x t ho B e i z 1 bytes ht hi hz hsz hb (by rw [hz1]; rfl) (by decide) v n cs hs hown.out ad m c news hx (by omega) hnews h1 ?_ ?_ hB ?_
 ·simp only [maxLen]; omega
 ·have : (n + m) * bytes ≤ 1000000000000 * 100 := Nat.mul_le_mul (by omega) hbytes
  omega
 ·intro v' w' h1 h2 _
  refine hK v' w' ⟨h1⟩ ((Below.refl B w).grown h2 hB (fun k hk => ?_))
  rcases hown.out.2 with ⟨rfl, _⟩ | ⟨g, cap, cur, rfl, hg, _⟩
  ·simp [Value.ownBlock] at hk
  ·simp [Value.ownBlock] at hk; omega
theorem Rd.news {w : World} {ad : Addr} {l : List Int} (h : Rd w (some ad) l) : ∀ j u, (ints l)[j]? = some u → w.cell? (ad.add j) = some u := fun j v hv => by
 have hj : j < l.length := by
  rcases Nat.lt_or_ge j l.length with h | h
  ·exact h
  ·rw [List.getElem?_eq_none (by rw [ints_len]; exact h)] at hv; cases hv
 obtain ⟨ad', hA', hc⟩ := h.cell j hj
 cases hA'
 rw [owInts_at l hj] at hv; cases hv; exact hc
theorem ints_one (l : List Int) : ∀ u ∈ ints l, u.oneCell' = true := fun v hv => by
 simp only [ints, List.mem_map] at hv
 obtain ⟨x, _, rfl⟩ := hv
 rfl
theorem OwnI.lit {w : World} {B : Nat} (e sz : Nat) (hB : B ≤ w.heap.size) : OwnI (w.alloc (.cells #[] e)) B e sz (.slice (some ⟨w.heap.size, 0, none⟩) 0 0) 0 [] :=
 ⟨World.ownsRow_lit w #[] 0 hB (by simp [maxLen]) (by simp)⟩
structure Gr (b : Nat) (w w' : World) : Prop where
 os : w'.os = w.os
 tape : w'.tape = w.tape
 output : w'.output = w.output
 size : w.heap.size ≤ w'.heap.size
 block : ∀ k, k < w.heap.size → k ≠ b → w'.heap[k]? = w.heap[k]?
theorem Gr.refl (b : Nat) (w : World) : Gr b w w := ⟨rfl, rfl, rfl, Nat.le_refl _, fun _ _ _ => rfl⟩
theorem Gr.trans {b : Nat} {u v w : World} (h : Gr b u v) (k : Gr b v w) : Gr b u w :=
 ⟨k.os.trans h.os, k.tape.trans h.tape, k.output.trans h.output, Nat.le_trans h.size k.size, fun i hi hne => (k.block i (Nat.lt_of_lt_of_le hi h.size) hne).trans (h.block i hi hne)⟩
theorem Bel.gr {w w' : World} (h : Bel w w') (b : Nat) : Gr b w w' := ⟨h.out.os, h.out.tape, h.out.output, h.out.size, fun k hk _ => h.out.block k hk⟩
theorem Gr.alloc {b : Nat} {u v : World} (h : Gr b u v) (o : Obj) : Gr b u (v.alloc o) := h.trans (((Bel.refl v).alloc o).gr b)
theorem Gr.drew {b : Nat} {u v : World} (h : Gr b u v) : Gr b u v.drew := h.trans ((Bel.refl v).drew.gr b)
theorem Gr.set {b : Nat} {u v : World} (h : Gr b u v) (i : Nat) (x : Value) : Gr b u (v.setCell ⟨b, i, none⟩ x) :=
 h.trans ⟨rfl, rfl, rfl, by simp [World.setCell], fun k _ hne => Below.heap_setCell _ _ _ _ hne⟩
theorem Gr.setNew {b : Nat} {u v : World} (h : Gr b u v) {p : Addr} (hp : u.heap.size ≤ p.block) (x : Value) : Gr b u (v.setCell p x) :=
 ⟨h.os, h.tape, h.output, by have := h.size; simpa [World.setCell] using this, fun k hk hne => (Below.heap_setCell _ _ _ _ (by omega)).trans (h.block k hk hne)⟩
theorem Gr.blk {b : Nat} {w w' : World} (h : Gr b w w') {b' : Nat} {t : TypeId} {cs : List Value} (k : Blk w b' t cs) (hne : b' ≠ b) : Blk w' b' t cs := ⟨by rw [h.block b' k.lt hne]; exact k.out⟩
theorem Gr.below {b B : Nat} {w0 w w' : World} (h : Gr b w w') (k : Below B w0 w) (hB : B ≤ b) (hs : B ≤ w.heap.size) : Below B w0 w' :=
 k.trans ⟨h.os, h.tape, h.output, h.size, fun i hi => h.block i (by omega) (by omega)⟩
theorem wpList_cp {P : Program} (w : World) {ops : Array Oper} {rest : List Oper} {o : Oper} {a : Act} {Q : Exit → Act → World → Prop} (hgd : o.guard = none) (d s : Operand) (t : TypeId)
  (ho : o.op = .call { callee := .builtin .copy, args := #[d, s], argTypes := #[t, t] }) (e : TypeId) (hu : P.underlying t = some (.slice e)) (hsz : (P.info? e).map (·.size) = some 1)
  (g off : Nat) (A : Option Addr) (dLen dCap n sCap : Nat) (l : List Int) (hn : l.length = n) (hd : a.eval d = .slice (some ⟨g, off, none⟩) dLen dCap) (hs : a.eval s = .slice A n sCap)
  (cur : List Value) (hg : Blk w g e cur) (hl : Rd w A l) (hfit : n ≤ dLen) (hin : off + n ≤ cur.length)
  (hK : ∀ w', Blk w' g e (cur.take off ++ (ints l ++ cur.drop (off + n))) → Gr g w w' → wpList P ops Q rest (a.put o.dst (goInt n)) w') :
  wpList P ops Q (o :: rest) a w := by
 subst hn
 rcases Nat.eq_zero_or_pos l.length with h0 | h0
 ·refine wpList_copy_nothing hgd d s t t ho e hu hsz _ _ dLen dCap l.length sCap hd hs (by rw [h0]; simp) ?_
  have e1 : cur.take off ++ (ints l ++ cur.drop (off + l.length)) = cur := by
   rw [List.length_eq_zero_iff.1 h0]; simp [ints]
  have := hK w (by rw [e1]; exact hg) (Gr.refl g w)
  rw [h0] at this; exact this
 ·obtain ⟨ad, rfl, _⟩ := hl.cell 0 h0
  have hb : ∀ v ∈ ints l, v.oneCell' = true := ints_one l
  have := wpList_copy_own (w := w) (ops := ops) hgd d s t t ho e hu hsz g off dLen dCap ad l.length sCap hd hs cur.toArray e hg.out (ints l) (by rw [ints_len]; simp [Nat.min_eq_left hfit]) hl.news (by rw [ints_len]; simpa using hin) hb (Q := Q) (rest := rest)
  refine this ?_
  rw [ints_len]
  refine hK _ ⟨?_⟩ ⟨rfl, rfl, rfl, by simp [World.setRow], fun k hk hne => setRow_other w g k _ hne⟩
  exact setRow_heap w g _ _ e _ hg.out
@[go_sem] theorem run_mkFunc (P : Program) (fn : Fn) (first cap : Array Value) (w : World) : (Instr.makeFunc fn first cap).run P w = .ok (.func fn first cap) w := rfl
theorem i64_mask (n : Int) (k : Nat) (hk : k ≤ 62) : bits .and .i64 n (2 ^ k - 1) = n % 2 ^ k := by
 have hp : (2 : Nat) ^ k ≤ 2 ^ 62 := Nat.pow_le_pow_right (by decide) hk
 have hq : 1 ≤ (2 : Nat) ^ k := Nat.one_le_two_pow
 have hc : ((2 : Int) ^ k - 1) = ((2 ^ k - 1 : Nat) : Int) := by
  rw [Int.natCast_sub hq]; simp
 have hc2 : ((2 : Int) ^ k) = ((2 ^ k : Nat) : Int) := by simp
 have hm : (BitVec.ofInt 64 (((2 ^ k - 1 : Nat) : Int))).toNat = 2 ^ k - 1 := by
  rw [BitVec.ofInt_natCast, BitVec.toNat_ofNat]; exact Nat.mod_eq_of_lt (by omega)
 have key : (BitVec.ofInt 64 n &&& BitVec.ofInt 64 ((2 ^ k - 1 : Nat) : Int)).toNat = (n % ((2 ^ 64 : Nat) : Int)).toNat % 2 ^ k := by
  rw [BitVec.toNat_and, BitVec.toNat_ofInt, hm, Nat.and_two_pow_sub_one_eq_mod]
 rw [hc]
 show IntKind.i64.wrap ((BitVec.ofInt 64 n &&& BitVec.ofInt 64 ((2 ^ k - 1 : Nat) : Int)).toNat : Nat) = n % 2 ^ k
 rw [key, IntKind.wrap_i64, hc2]
 have hd : (2 : Nat) ^ 64 = 2 ^ k * 2 ^ (64 - k) := by rw [← Nat.pow_add]; congr 1; omega
 have h1 : (((n % ((2 ^ 64 : Nat) : Int)).toNat % 2 ^ k : Nat) : Int) = n % ((2 ^ k : Nat) : Int) := by
  have hnn : 0 ≤ n % ((2 ^ 64 : Nat) : Int) := Int.emod_nonneg _ (by decide)
  rw [Int.natCast_emod, Int.toNat_of_nonneg hnn]
  exact Int.emod_emod_of_dvd n ⟨((2 ^ (64 - k) : Nat) : Int), by rw [← Int.natCast_mul, ← hd]⟩
 rw [h1]
 have h2 : 0 ≤ n % ((2 ^ k : Nat) : Int) := Int.emod_nonneg _ (by omega)
 have h3 : n % ((2 ^ k : Nat) : Int) < ((2 ^ k : Nat) : Int) := Int.emod_lt_of_pos _ (by omega)
 generalize n % ((2 ^ k : Nat) : Int) = q at h2 h3 ⊢
 omega
theorem i64_mask24 (n : Int) : bits .and .i64 n 16777215 = n % 16777216 := i64_mask n 24 (by decide)
theorem Gr.bel {b : Nat} {u w w' : World} (h : Gr b w w') (k : Bel u w) (hb : u.heap.size ≤ b) : Bel u w' :=
 ⟨k.out.trans ⟨h.os, h.tape, h.output, h.size, fun i hi => h.block i (by have := k.size; omega) (by omega)⟩⟩
theorem OwnI.rdAt {w : World} {B g cap n : Nat} {e : Nat} {l : List Int} (h : OwnI w B e 1 (.slice (some ⟨g, 0, none⟩) n cap) n (ints l)) (hn : l.length = n) (hm : n ≤ 35184372088831) : Rd w (some ⟨g, 0, none⟩) l :=
 ⟨by omega, fun j hj => ⟨_, rfl, by
  rw [show (⟨g, 0, none⟩ : Addr).add j = ⟨g, j, none⟩ from by unfold Addr.add; split <;> simp_all]
  exact h.cell (owInts_at l hj)⟩⟩
end Ow
namespace Pl
open Go Go.RowKit Ow
def val : List Int → Int
 | [] => 0
 | x :: r => x + 16777216 * val r
def Lims (l : List Int) : Prop := ∀ x ∈ l, 0 ≤ x ∧ x < 16777216
def IsN (l : List Int) : Prop := Lims l ∧ l.getLast? ≠ some 0
def digs (n : Nat) : List Int := if h : n = 0 then [] else ((n % 16777216 : Nat) : Int) :: digs (n / 16777216)
termination_by n
decreasing_by omega
theorem pow_cast (k : Nat) : ((16777216 ^ k : Nat) : Int) = (16777216 : Int) ^ k := Int.natCast_pow 16777216 k
theorem Lims.tail {x : Int} {l : List Int} (h : Lims (x :: l)) : Lims l := fun y hy => h y (List.mem_cons_of_mem _ hy)
theorem Lims.head {x : Int} {l : List Int} (h : Lims (x :: l)) : 0 ≤ x ∧ x < 16777216 := h x (List.mem_cons_self ..)
theorem Lims.nth {l : List Int} (h : Lims l) (i : Nat) : 0 ≤ nth l i ∧ nth l i < 16777216 := by
 by_cases hi : i < l.length
 ·rw [nth_lt hi]; exact h _ (List.getElem_mem _)
 ·rw [nth_ge (by omega)]; omega
theorem val_nonneg {l : List Int} (h : Lims l) : 0 ≤ val l := by
 induction l with
 | nil => simp [val]
 | cons x r ih => have := ih h.tail; have := h.head; simp only [val]; omega
theorem val_lt {l : List Int} (h : Lims l) : val l < 16777216 ^ l.length := by
 induction l with
 | nil => simp [val]
 | cons x r ih =>
  have h1 := ih h.tail; have h2 := h.head
  simp only [val, List.length_cons, Int.pow_succ]
  omega
theorem IsN.nil : IsN [] := ⟨fun x hx => by simp at hx, by simp⟩
theorem IsN.tail {x : Int} {l : List Int} (h : IsN (x :: l)) : IsN l := ⟨h.1.tail, fun e => h.2 (by
 cases l with
 | nil => simp at e
 | cons y r => simpa using e)⟩
theorem IsN.pos {l : List Int} (h : IsN l) (hl : l ≠ []) : 0 < val l := by
 induction l with
 | nil => exact absurd rfl hl
 | cons x r ih =>
  have hx := h.1.head
  have hr := val_nonneg h.1.tail
  simp only [val]
  cases r with
  | nil =>
   have : x ≠ 0 := fun e => h.2 (by simp [e])
   omega
  | cons y s => have := ih h.tail (by simp); omega
theorem digs_zero : digs 0 = [] := by unfold digs; simp
theorem digs_pos {n : Nat} (h : n ≠ 0) : digs n = ((n % 16777216 : Nat) : Int) :: digs (n / 16777216) := by rw [digs]; simp [h]
theorem digs_can (n : Nat) : IsN (digs n) := by
 induction n using Nat.strongRecOn with
 | _ n ih =>
  by_cases h : n = 0
  ·subst h; rw [digs_zero]; exact IsN.nil
  ·rw [digs_pos h]
   have ih' := ih (n / 16777216) (by omega)
   refine ⟨fun x hx => ?_, ?_⟩
   ·rcases List.mem_cons.1 hx with rfl | hx
    ·omega
    ·exact ih'.1 x hx
   ·by_cases h2 : n / 16777216 = 0
    ·rw [h2, digs_zero]; simp; omega
    ·intro e
     apply ih'.2
     rw [digs_pos h2] at e ⊢
     simpa using e
theorem digs_val (n : Nat) : val (digs n) = n := by
 induction n using Nat.strongRecOn with
 | _ n ih =>
  by_cases h : n = 0
  ·subst h; rw [digs_zero]; rfl
  ·rw [digs_pos h]; simp only [val]; rw [ih (n / 16777216) (by omega)]; omega
theorem digs_of {l : List Int} (h : IsN l) : digs (val l).toNat = l := by
 induction l with
 | nil => simp [val, digs_zero]
 | cons x r ih =>
  have hp := h.pos (by simp)
  have hx := h.1.head
  have hr := val_nonneg h.1.tail
  have e : (val (x :: r)).toNat ≠ 0 := by omega
  rw [digs_pos e]
  have ev : val (x :: r) = x + 16777216 * val r := rfl
  have e1 : ((val (x :: r)).toNat % 16777216 : Nat) = x.toNat := by omega
  have e2 : (val (x :: r)).toNat / 16777216 = (val r).toNat := by omega
  rw [e1, e2, ih h.tail]
  congr 1; omega
theorem digs_eq {l : List Int} {n : Nat} (h : IsN l) (hv : val l = n) : digs n = l := by
 have := digs_of h; rw [hv] at this; simpa using this
theorem digs_inj {m n : Nat} (h : digs m = digs n) : m = n := by
 have h1 := digs_val m; rw [h, digs_val] at h1; omega
theorem digs_nil {n : Nat} : digs n = [] ↔ n = 0 := ⟨fun h => digs_inj (h.trans digs_zero.symm), fun h => by rw [h, digs_zero]⟩
theorem digs_lt (n : Nat) : n < 16777216 ^ (digs n).length := by
 have := val_lt (digs_can n).1; rw [digs_val, ← pow_cast] at this; exact Int.ofNat_lt.1 this
theorem IsN.low {l : List Int} (h : IsN l) (hl : l ≠ []) : 16777216 ^ (l.length - 1) ≤ val l := by
 induction l with
 | nil => exact absurd rfl hl
 | cons x r ih =>
  have hx := h.1.head
  cases r with
  | nil =>
   have := h.pos (List.cons_ne_nil _ _)
   show (16777216 : Int) ^ 0 ≤ _
   rw [Int.pow_zero]; omega
  | cons y s =>
   have := ih h.tail (by simp)
   simp only [List.length_cons, Nat.add_sub_cancel] at this ⊢
   have e : val (x :: y :: s) = x + 16777216 * val (y :: s) := rfl
   rw [e, Int.pow_succ]; omega
theorem digs_len_le {n k : Nat} : (digs n).length ≤ k ↔ n < 16777216 ^ k := by
 constructor
 ·intro h; exact Nat.lt_of_lt_of_le (digs_lt n) (Nat.pow_le_pow_right (by decide) h)
 ·intro h
  by_cases h0 : digs n = []
  ·simp [h0]
  ·have h1 := (digs_can n).low h0
   rw [digs_val] at h1
   have h2 : 16777216 ^ ((digs n).length - 1) < 16777216 ^ k := by
    have : (16777216 ^ ((digs n).length - 1) : Nat) ≤ n := by rw [← pow_cast] at h1; exact Int.ofNat_le.1 h1
    exact Nat.lt_of_le_of_lt this h
   have h3 := (Nat.pow_lt_pow_iff_right (a := 16777216) (by decide)).1 h2
   omega
def blen (n : Nat) : Nat := if n = 0 then 0 else Nat.log2 n + 1
theorem blen_zero : blen 0 = 0 := rfl
theorem blen_pos {n : Nat} (h : n ≠ 0) : blen n = Nat.log2 n + 1 := by unfold blen; rw [if_neg h]
theorem blen_lt (n : Nat) : n < 2 ^ blen n := by
 by_cases h : n = 0
 ·subst h; decide
 ·rw [blen_pos h]; exact Nat.lt_log2_self
theorem blen_low {n : Nat} (h : n ≠ 0) : 2 ^ (blen n - 1) ≤ n := by rw [blen_pos h]; exact Nat.log2_self_le h
theorem blen_le {n k : Nat} : blen n ≤ k ↔ n < 2 ^ k := by
 constructor
 ·intro h; exact Nat.lt_of_lt_of_le (blen_lt n) (Nat.pow_le_pow_right (by decide) h)
 ·intro h
  by_cases h0 : n = 0
  ·subst h0; rw [blen_zero]; exact Nat.zero_le _
  ·have h1 := Nat.lt_of_le_of_lt (blen_low h0) h
   have h2 := (Nat.pow_lt_pow_iff_right (a := 2) (by decide)).1 h1
   omega
theorem blen_eq {n k : Nat} (h1 : 2 ^ k ≤ n) (h2 : n < 2 ^ (k + 1)) : blen n = k + 1 := by
 have a := blen_le.2 h2
 have b : ¬ blen n ≤ k := fun h => by have := blen_le.1 h; omega
 omega
theorem blen_shift {n k r : Nat} (h : n ≠ 0) (hr : r < 2 ^ k) : blen (n * 2 ^ k + r) = blen n + k := by
 have h1 := blen_low h
 have h2 := blen_lt n
 have h3 : 1 ≤ blen n := by rw [blen_pos h]; omega
 obtain ⟨b, hb⟩ : ∃ b, blen n = b + 1 := ⟨blen n - 1, by omega⟩
 rw [hb] at h1 h2 ⊢
 rw [Nat.add_sub_cancel] at h1
 rw [show b + 1 + k = (b + k) + 1 from by omega]
 refine blen_eq ?_ ?_
 ·rw [Nat.pow_add]; have := Nat.mul_le_mul_right (2 ^ k) h1; omega
 ·have h4 : (n + 1) * 2 ^ k ≤ 2 ^ (b + 1) * 2 ^ k := Nat.mul_le_mul_right _ h2
  rw [← Nat.pow_add, Nat.add_mul, Nat.one_mul] at h4
  rw [show b + k + 1 = b + 1 + k from by omega]; omega
def sumf : Nat → (Nat → Int) → Int
 | 0, _ => 0
 | n + 1, f => f 0 + 16777216 * sumf n (fun i => f (i + 1))
theorem sumf_add (n : Nat) : ∀ f g : Nat → Int, sumf n (fun i => f i + g i) = sumf n f + sumf n g := by
 induction n with
 | zero => intro f g; rfl
 | succ n ih => intro f g; simp only [sumf]; rw [ih]; omega
theorem sumf_sub (n : Nat) : ∀ f g : Nat → Int, sumf n (fun i => f i - g i) = sumf n f - sumf n g := by
 induction n with
 | zero => intro f g; rfl
 | succ n ih => intro f g; simp only [sumf]; rw [ih]; omega
theorem sumf_mul (n : Nat) : ∀ (f : Nat → Int) (c : Int), sumf n (fun i => f i * c) = sumf n f * c := by
 induction n with
 | zero => intro f c; simp [sumf]
 | succ n ih => intro f c; simp only [sumf]; rw [ih, Int.add_mul, Int.mul_assoc]
theorem nth_cons (x : Int) (r : List Int) (i : Nat) : nth (x :: r) (i + 1) = nth r i := by simp [nth]
theorem sumf_zero (n : Nat) : sumf n (fun _ => 0) = 0 := by
 induction n with
 | zero => rfl
 | succ n ih => simp only [sumf]; rw [ih]; rfl
theorem nth_zero (x : Int) (r : List Int) : nth (x :: r) 0 = x := rfl
theorem nth_nil (i : Nat) : nth [] i = 0 := rfl
theorem sumf_nth : ∀ (l : List Int) (n : Nat), l.length ≤ n → sumf n (nth l) = val l := by
 intro l
 induction l with
 | nil => intro n _; exact (congrArg (sumf n) (funext fun i => nth_nil i)).trans (sumf_zero n)
 | cons x r ih =>
  intro n hn
  obtain ⟨n, rfl⟩ : ∃ k, n = k + 1 := ⟨n - 1, by simp at hn; omega⟩
  simp only [sumf, val]
  rw [show (fun i => nth (x :: r) (i + 1)) = nth r from funext fun i => nth_cons x r i, ih n (by simpa using hn), nth_zero]
def limbs : Nat → Int → (Nat → Int) → List Int
 | 0, _, _ => []
 | n + 1, c, f => ((f 0 + c) % 16777216) :: limbs n ((f 0 + c) / 16777216) (fun i => f (i + 1))
theorem limbs_len (n : Nat) : ∀ c f, (limbs n c f).length = n := by
 induction n with
 | zero => intro c f; rfl
 | succ n ih => intro c f; simp [limbs, ih]
theorem limbs_lims (n : Nat) : ∀ c f, Lims (limbs n c f) := by
 induction n with
 | zero => intro c f x hx; simp [limbs] at hx
 | succ n ih =>
  intro c f x hx
  rcases List.mem_cons.1 hx with rfl | hx
  ·omega
  ·exact ih _ _ x hx
theorem limbs_val (n : Nat) : ∀ c f, ∃ c', val (limbs n c f) + 16777216 ^ n * c' = c + sumf n f := by
 induction n with
 | zero => intro c f; exact ⟨c, by simp [limbs, val, sumf]⟩
 | succ n ih =>
  intro c f
  obtain ⟨c', h⟩ := ih ((f 0 + c) / 16777216) (fun i => f (i + 1))
  refine ⟨c', ?_⟩
  simp only [limbs, val, sumf, Int.pow_succ]
  have e : (16777216 : Int) ^ n * 16777216 * c' = 16777216 * (16777216 ^ n * c') := by rw [Int.mul_comm ((16777216 : Int) ^ n) 16777216, Int.mul_assoc]
  rw [e]
  generalize (16777216 : Int) ^ n * c' = z at h ⊢
  omega
theorem fits {p v c t : Int} (h0 : 0 ≤ v) (h1 : v < p) (e : v + p * c = t) (h2 : 0 ≤ t) (h3 : t < p) : v = t := by
 have hc : c = 0 := by
  rcases Int.lt_trichotomy c 0 with h | h | h
  ·have : p * c ≤ p * (-1) := Int.mul_le_mul_of_nonneg_left (by omega) (by omega)
   omega
  ·exact h
  ·have : p * 1 ≤ p * c := Int.mul_le_mul_of_nonneg_left (by omega) (by omega)
   omega
 subst hc; omega
theorem limbs_fit (n : Nat) (c : Int) (f : Nat → Int) (h0 : 0 ≤ c + sumf n f) (h1 : c + sumf n f < 16777216 ^ n) : val (limbs n c f) = c + sumf n f := by
 obtain ⟨c', h⟩ := limbs_val n c f
 have h2 := val_lt (limbs_lims n c f)
 rw [limbs_len] at h2
 exact fits (val_nonneg (limbs_lims n c f)) h2 h h0 h1
def trimN (l : List Int) : Nat → Nat
 | 0 => 0
 | n + 1 => if nth l n = 0 then trimN l n else n + 1
theorem trimN_le (l : List Int) (n : Nat) : trimN l n ≤ n := by
 induction n with
 | zero => simp [trimN]
 | succ n ih => unfold trimN; split <;> omega
def trimL (l : List Int) : List Int := l.take (trimN l l.length)
theorem val_append (a b : List Int) : val (a ++ b) = val a + 16777216 ^ a.length * val b := by
 induction a with
 | nil => simp [val]
 | cons x r ih =>
  simp only [List.cons_append, val, ih, List.length_cons, Int.pow_succ]
  rw [Int.mul_add, Int.mul_comm ((16777216 : Int) ^ r.length) 16777216, Int.mul_assoc]; omega
theorem val_take (l : List Int) (n : Nat) (hn : n ≤ l.length) : val (l.take (trimN l n)) = val (l.take n) := by
 induction n with
 | zero => rfl
 | succ n ih =>
  simp only [trimN]
  split
  ·rename_i h
   rw [ih (by omega), List.take_succ_eq_append_getElem (by omega), val_append]
   rw [nth_lt (by omega)] at h
   simp [h, val]
  ·rfl
theorem val_trim (l : List Int) : val (trimL l) = val l := by
 have := val_take l l.length (Nat.le_refl _); rw [List.take_length] at this; exact this
theorem trimN_last (l : List Int) (n : Nat) (hn : n ≤ l.length) : (l.take (trimN l n)).getLast? ≠ some 0 := by
 induction n with
 | zero => simp [trimN]
 | succ n ih =>
  simp only [trimN]
  split
  ·exact ih (by omega)
  ·rename_i h
   rw [nth_lt (by omega)] at h
   rw [List.take_succ_eq_append_getElem (by omega), List.getLast?_append]
   simpa using h
theorem Lims.take {l : List Int} (h : Lims l) (n : Nat) : Lims (l.take n) := fun x hx => h x (List.mem_of_mem_take hx)
theorem trim_can {l : List Int} (h : Lims l) : IsN (trimL l) := ⟨h.take _, trimN_last l _ (Nat.le_refl _)⟩
theorem trim_digs {l : List Int} {n : Nat} (h : Lims l) (hv : val l = n) : trimL l = digs n := (digs_eq (trim_can h) (by rw [val_trim]; exact hv)).symm
theorem pow_le {a b : Nat} (h : a ≤ b) : (16777216 : Int) ^ a ≤ 16777216 ^ b := by
 have : (16777216 ^ a : Nat) ≤ 16777216 ^ b := Nat.pow_le_pow_right (by decide) h
 rw [← pow_cast, ← pow_cast]; exact Int.ofNat_le.2 this
theorem digs_val_lt (x : Nat) (n : Nat) (h : (digs x).length ≤ n) : (x : Int) < 16777216 ^ n := by
 have := digs_len_le.1 h; rw [← pow_cast]; exact Int.ofNat_lt.2 this
theorem add_digs (x y n : Nat) (hx : (digs x).length ≤ n) (hy : (digs y).length ≤ n) :
  trimL (limbs (n + 1) 0 fun i => nth (digs x) i + nth (digs y) i) = digs (x + y) := by
 have e : sumf (n + 1) (fun i => nth (digs x) i + nth (digs y) i) = ((x + y : Nat) : Int) := by
  rw [sumf_add, sumf_nth _ _ (by omega), sumf_nth _ _ (by omega), digs_val, digs_val]; exact (Int.natCast_add x y).symm
 have h1 := digs_val_lt x n hx
 have h2 := digs_val_lt y n hy
 have h3 : (0 : Int) + sumf (n + 1) (fun i => nth (digs x) i + nth (digs y) i) < 16777216 ^ (n + 1) := by
  rw [e, Int.pow_succ]; omega
 refine trim_digs (limbs_lims _ _ _) ?_
 rw [limbs_fit _ _ _ (by rw [e]; omega) h3, e]; exact Int.zero_add _
theorem sub_digs (x y : Nat) (h : y ≤ x) : trimL (limbs (digs x).length 0 fun i => nth (digs x) i - nth (digs y) i) = digs (x - y) := by
 have h1 := digs_val_lt x _ (Nat.le_refl _)
 have hy : (digs y).length ≤ (digs x).length := digs_len_le.2 (Nat.lt_of_le_of_lt h (digs_lt x))
 have e : sumf (digs x).length (fun i => nth (digs x) i - nth (digs y) i) = ((x - y : Nat) : Int) := by
  rw [sumf_sub, sumf_nth _ _ (Nat.le_refl _), sumf_nth _ _ hy, digs_val, digs_val]; omega
 refine trim_digs (limbs_lims _ _ _) ?_
 rw [limbs_fit _ _ _ (by rw [e]; omega) (by rw [e]; omega), e]; exact Int.zero_add _
def cmpI (x y : Int) : Int := if x < y then -1 else if y < x then 1 else 0
theorem cmpI_lt {x y : Int} (h : x < y) : cmpI x y = -1 := by unfold cmpI; rw [if_pos h]
theorem cmpI_gt {x y : Int} (h : y < x) : cmpI x y = 1 := by unfold cmpI; rw [if_neg (by omega), if_pos h]
theorem cmpI_eq {x y : Int} (h : x = y) : cmpI x y = 0 := by unfold cmpI; rw [if_neg (by omega), if_neg (by omega)]
def cmpTop (a b : List Int) : Nat → Int
 | 0 => 0
 | n + 1 => if nth a n = nth b n then cmpTop a b n else cmpI (nth a n) (nth b n)
theorem cmpTop_val {a b : List Int} (ha : Lims a) (hb : Lims b) : ∀ n, n ≤ a.length → n ≤ b.length → cmpTop a b n = cmpI (val (a.take n)) (val (b.take n)) := by
 intro n
 induction n with
 | zero => intro _ _; simp [cmpTop, cmpI, val]
 | succ n ih =>
  intro h1 h2
  have ih' := ih (by omega) (by omega)
  have la := val_lt (ha.take n); have lb := val_lt (hb.take n)
  have na := val_nonneg (ha.take n); have nb := val_nonneg (hb.take n)
  rw [List.length_take, Nat.min_eq_left (by omega)] at la lb
  have ea : val (a.take (n + 1)) = val (a.take n) + 16777216 ^ n * nth a n := by
   rw [List.take_succ_eq_append_getElem (by omega), val_append, List.length_take, Nat.min_eq_left (by omega), nth_lt (by omega)]; simp [val]
  have eb : val (b.take (n + 1)) = val (b.take n) + 16777216 ^ n * nth b n := by
   rw [List.take_succ_eq_append_getElem (by omega), val_append, List.length_take, Nat.min_eq_left (by omega), nth_lt (by omega)]; simp [val]
  rw [ea, eb]
  generalize (16777216 : Int) ^ n = p at *
  generalize val (a.take n) = u at *
  generalize val (b.take n) = v at *
  simp only [cmpTop]
  generalize nth a n = s
  generalize nth b n = t
  by_cases h : s = t
  ·rw [if_pos h, ih', h]
   rcases Int.lt_trichotomy u v with h1 | h1 | h1
   ·rw [cmpI_lt h1, cmpI_lt (by omega)]
   ·rw [cmpI_eq h1, cmpI_eq (by omega)]
   ·rw [cmpI_gt h1, cmpI_gt (by omega)]
  ·rw [if_neg h]
   by_cases h1 : s < t
   ·have : p * (s + 1) ≤ p * t := Int.mul_le_mul_of_nonneg_left (by omega) (by omega)
    rw [Int.mul_add] at this
    rw [cmpI_lt h1, cmpI_lt (by omega)]
   ·have h2 : t < s := by omega
    have : p * (t + 1) ≤ p * s := Int.mul_le_mul_of_nonneg_left (by omega) (by omega)
    rw [Int.mul_add] at this
    rw [cmpI_gt h2, cmpI_gt (by omega)]
theorem cmp_digs (x y : Nat) (h : (digs x).length = (digs y).length) : cmpTop (digs x) (digs y) (digs x).length = cmpI x y := by
 rw [cmpTop_val (digs_can x).1 (digs_can y).1 _ (Nat.le_refl _) (by omega), List.take_length, h, List.take_length, digs_val, digs_val]
theorem digs_len_lt {x y : Nat} (h : (digs x).length < (digs y).length) : x < y := by
 rcases Nat.lt_or_ge x y with h1 | h1
 ·exact h1
 ·have := digs_len_le.2 (Nat.lt_of_le_of_lt h1 (digs_lt x)); omega
theorem cmp_len (x y : Nat) (h : (digs x).length ≠ (digs y).length) : cmpI (digs x).length (digs y).length = cmpI x y := by
 rcases Nat.lt_or_gt_of_ne h with h1 | h1
 ·have := digs_len_lt h1
  rw [cmpI_lt (by omega), cmpI_lt (by omega)]
 ·have := digs_len_lt h1
  rw [cmpI_gt (by omega), cmpI_gt (by omega)]
theorem val_set (l : List Int) : ∀ (j : Nat) (v : Int), j < l.length → val (l.set j v) = val l + 16777216 ^ j * (v - nth l j) := by
 induction l with
 | nil => intro j v h; simp at h
 | cons x r ih =>
  intro j v h
  cases j with
  | zero => simp only [List.set_cons_zero, val, Int.pow_zero, nth_zero]; omega
  | succ j =>
   simp only [List.set_cons_succ, val, nth_cons, Int.pow_succ]
   rw [ih j v (by simpa using h), Int.mul_add, Int.mul_comm ((16777216 : Int) ^ j) 16777216, Int.mul_assoc]; omega
theorem nth_set_eq {l : List Int} {j : Nat} {v : Int} (h : j < l.length) : nth (l.set j v) j = v := by simp [nth, h]
theorem nth_set_ne {l : List Int} {j k : Nat} {v : Int} (h : j ≠ k) : nth (l.set j v) k = nth l k := by simp [nth, List.getElem?_set_ne h]
theorem Lims.set {l : List Int} (h : Lims l) (j : Nat) {v : Int} (hv : 0 ≤ v ∧ v < 16777216) : Lims (l.set j v) := fun x hx => by
 rcases List.mem_or_eq_of_mem_set hx with h1 | h1
 ·exact h x h1
 ·rw [h1]; exact hv
theorem lims_rep (n : Nat) : Lims (List.replicate n 0) := fun x hx => by rw [List.eq_of_mem_replicate hx]; omega
theorem val_rep (n : Nat) : val (List.replicate n 0) = 0 := by
 induction n with
 | zero => rfl
 | succ n ih => rw [List.replicate_succ]; simp only [val]; rw [ih]; rfl
theorem nth_rep (n j : Nat) : nth (List.replicate n 0) j = 0 := by
 by_cases h : j < n
 ·rw [nth_lt (by simpa using h)]; simp
 ·exact nth_ge (by simp; omega)
theorem val_succ {l : List Int} {n : Nat} (h : n < l.length) : val (l.take (n + 1)) = val (l.take n) + 16777216 ^ n * nth l n := by
 rw [List.take_succ_eq_append_getElem h, val_append, List.length_take, Nat.min_eq_left (by omega), nth_lt h]; simp [val]
theorem mul_step {V P p q s c x y b bk : Int} (h : V + p * c = P + q * x * b) (hp : p = q * bk) :
  V + p * ((s + x * y + c) % 16777216 - s) + p * 16777216 * ((s + x * y + c) / 16777216) = P + q * x * (b + bk * y) := by
 have e2 : q * x * (bk * y) = p * (x * y) := by rw [hp]; ac_rfl
 rw [Int.mul_add, e2]
 have e : 16777216 * ((s + x * y + c) / 16777216) + (s + x * y + c) % 16777216 = s + x * y + c := Int.mul_ediv_add_emod _ _
 generalize (s + x * y + c) / 16777216 = d at e ⊢
 generalize (s + x * y + c) % 16777216 = m at e ⊢
 generalize x * y = z at e ⊢
 have : m = s + z + c - 16777216 * d := by omega
 subst this
 rw [Int.mul_sub, Int.mul_sub, Int.mul_add, Int.mul_add, Int.mul_assoc p 16777216 d]
 omega
theorem mul_le_limb {x y : Int} (h0 : 0 ≤ x) (h1 : x < 16777216) (h2 : 0 ≤ y) (h3 : y < 16777216) : 0 ≤ x * y ∧ x * y ≤ 281474943156225 := by
 refine ⟨Int.mul_nonneg h0 h2, ?_⟩
 have a : x * y ≤ 16777215 * y := Int.mul_le_mul_of_nonneg_right (by omega) h2
 omega
theorem limbs_step (f : Nat → Int) (i m : Nat) (cr : Int) (done : List Int) (h : i < m) :
  (done ++ [(f i + cr) % 16777216]) ++ limbs (m - (i + 1)) ((f i + cr) / 16777216) (fun j => f (i + 1 + j)) = done ++ limbs (m - i) cr (fun j => f (i + j)) := by
 obtain ⟨d, hd⟩ : ∃ d, m - i = d + 1 := ⟨m - i - 1, by omega⟩
 rw [hd, show m - (i + 1) = d from by omega, List.append_assoc]
 simp only [limbs, List.singleton_append, Nat.add_zero]
 congr 3
 funext j
 rw [show i + 1 + j = i + (j + 1) from by omega]
theorem lims_append {a b : List Int} (ha : Lims a) (hb : Lims b) : Lims (a ++ b) := fun x hx => by
 rcases List.mem_append.1 hx with h | h
 ·exact ha x h
 ·exact hb x h
theorem pow_split (k : Nat) : (2 : Nat) ^ k = 16777216 ^ (k / 24) * 2 ^ (k % 24) := by
 rw [show (16777216 : Nat) = 2 ^ 24 from rfl, ← Nat.pow_mul, ← Nat.pow_add]; congr 1; omega
theorem p2_lt {b : Nat} (h : b < 24) : (2 : Nat) ^ b ≤ 8388608 := by
 have : (2 : Nat) ^ b ≤ 2 ^ 23 := Nat.pow_le_pow_right (by decide) (by omega)
 omega
theorem shl_digs (x k : Nat) : trimL (List.replicate (k / 24) 0 ++ limbs ((digs x).length + 1) 0 (fun j => nth (digs x) j * ((2 ^ (k % 24) : Nat) : Int))) = digs (x * 2 ^ k) := by
 have hp := p2_lt (b := k % 24) (by omega)
 have h1 := digs_val_lt x _ (Nat.le_refl _)
 have e : sumf ((digs x).length + 1) (fun j => nth (digs x) j * ((2 ^ (k % 24) : Nat) : Int)) = ((x * 2 ^ (k % 24) : Nat) : Int) := by
  rw [sumf_mul, sumf_nth _ _ (by omega), digs_val]; exact (Int.natCast_mul _ _).symm
 have h2 : ((x * 2 ^ (k % 24) : Nat) : Int) < 16777216 ^ ((digs x).length + 1) := by
  rw [Int.pow_succ, Int.natCast_mul]
  have a : (x : Int) * ((2 ^ (k % 24) : Nat) : Int) ≤ (x : Int) * 8388608 := Int.mul_le_mul_of_nonneg_left (Int.ofNat_le.2 hp) (by omega)
  omega
 refine trim_digs (lims_append (lims_rep _) (limbs_lims _ _ _)) ?_
 rw [val_append, val_rep, limbs_fit _ _ _ (by rw [e]; omega) (by rw [e]; omega), e, List.length_replicate, Int.zero_add, Int.zero_add, ← pow_cast, ← Int.natCast_mul]
 congr 1
 rw [pow_split k]; ac_rfl
theorem set_mid (a d r : List Int) (i : Nat) (v : Int) (h : i < r.length) (hd : d.length = i) : (a ++ (d ++ r.drop i)).set (a.length + i) v = a ++ ((d ++ [v]) ++ r.drop (i + 1)) := by
 rw [List.set_append_right _ _ (by omega), Nat.add_sub_cancel_left, List.set_append_right _ _ (by omega), hd, Nat.sub_self, List.drop_eq_getElem_cons h, List.set_cons_zero, List.append_assoc]
 rfl
theorem nth_mid (a d r : List Int) (i : Nat) (h : i < r.length) (hd : d.length = i) : nth (a ++ (d ++ r.drop i)) (a.length + i) = nth r i := by
 rw [nth_lt (by simp; omega), nth_lt h, List.getElem_append_right (by omega)]
 simp only [Nat.add_sub_cancel_left]
 rw [List.getElem_append_right (by omega)]
 simp [hd]
theorem nth_snoc (l : List Int) (i : Nat) : nth (l ++ [0]) i = nth l i := by
 by_cases h : i < l.length
 ·rw [nth_lt (by simp; omega), nth_lt h, List.getElem_append_left h]
 ·rw [nth_ge (l := l) (by omega)]
  by_cases h2 : i = l.length
  ·subst h2; simp [nth]
  ·exact nth_ge (by simp; omega)
theorem wrap_id {x : Int} (h0 : -9223372036854775808 ≤ x) (h1 : x ≤ 9223372036854775807) : wrap64 x = x := by unfold wrap64; omega
theorem shl_wrap {x : Int} {b : Nat} (h0 : 0 ≤ x) (h1 : x < 16777216) (hb : b < 24) : wrap64 (x * 2 ^ b) = x * ((2 ^ b : Nat) : Int) ∧ 0 ≤ x * ((2 ^ b : Nat) : Int) ∧ x * ((2 ^ b : Nat) : Int) ≤ 140737479966720 := by
 have hp := p2_lt hb
 have e : (2 : Int) ^ b = ((2 ^ b : Nat) : Int) := (Int.natCast_pow 2 b).symm
 rw [e]
 generalize (2 ^ b : Nat) = p at hp
 have a : x * (p : Int) ≤ x * 8388608 := Int.mul_le_mul_of_nonneg_left (by omega) h0
 have c : 0 ≤ x * (p : Int) := Int.mul_nonneg h0 (by omega)
 exact ⟨wrap_id (by omega) (by omega), c, by omega⟩
def shrL (p q : Int) : List Int → List Int
 | [] => []
 | x :: r => (x / p + nth r 0 * q % 16777216) :: shrL p q r
theorem shrL_len (p q : Int) (l : List Int) : (shrL p q l).length = l.length := by
 induction l with
 | nil => rfl
 | cons x r ih => simp [shrL, ih]
theorem shrL_nth (p q : Int) (l : List Int) : ∀ i, i < l.length → nth (shrL p q l) i = nth l i / p + nth l (i + 1) * q % 16777216 := by
 induction l with
 | nil => intro i h; simp at h
 | cons x r ih =>
  intro i h
  cases i with
  | zero => simp only [shrL, nth_zero, nth_cons]
  | succ i => simp only [shrL, nth_cons]; exact ih i (by simpa using h)
theorem div_split {p q y v : Int} (hp : 0 < p) (hpq : p * q = 16777216) : q * (y + 16777216 * v) = y * q % 16777216 + 16777216 * ((y + 16777216 * v) / p) := by
 have e1 : (y + 16777216 * v) / p = y / p + q * v := by
  rw [← hpq, Int.mul_assoc, Int.add_mul_ediv_left _ _ (by omega)]
 have e2 : y * q / 16777216 = y / p := by
  have hq : 0 < q := by
   rcases Int.lt_trichotomy q 0 with h | h | h
   ·have : p * q < 0 := Int.mul_neg_of_pos_of_neg hp h
    omega
   ·subst h; simp at hpq
   ·exact h
  rw [← hpq, Int.mul_comm p q, Int.mul_comm y q]
  exact Int.mul_ediv_mul_of_pos y p hq
 have e3 := Int.mul_ediv_add_emod (y * q) 16777216
 rw [e2] at e3
 rw [e1, Int.mul_add, Int.mul_add, Int.mul_comm q y, ← Int.mul_assoc q, Int.mul_comm q 16777216, Int.mul_assoc]
 omega
theorem shrL_val {p q : Int} (hp : 0 < p) (hpq : p * q = 16777216) (l : List Int) : val (shrL p q l) = val l / p := by
 induction l with
 | nil => simp [shrL, val]
 | cons x r ih =>
  simp only [shrL, val]
  rw [ih]
  have e : (x + 16777216 * val r) / p = x / p + q * val r := by
   rw [← hpq, Int.mul_assoc, Int.add_mul_ediv_left _ _ (by omega)]
  rw [e]
  cases r with
  | nil => simp [val, nth]
  | cons y s =>
   simp only [val, nth_zero]
   rw [div_split hp hpq]; omega
theorem limb_or {x y p q : Int} (h0 : 0 ≤ x) (h1 : x < 16777216) (hp : 0 < p) (hpq : p * q = 16777216) (hy : 0 ≤ y) : 0 ≤ x / p + y * q % 16777216 ∧ x / p + y * q % 16777216 < 16777216 ∧ x / p < q ∧ 0 ≤ x / p := by
 have hq : 0 < q := by
  rcases Int.lt_trichotomy q 0 with h | h | h
  ·have : p * q < 0 := Int.mul_neg_of_pos_of_neg hp h
   omega
  ·subst h; simp at hpq
  ·exact h
 have a : x / p < q := Int.ediv_lt_of_lt_mul hp (by rw [Int.mul_comm, hpq]; exact h1)
 have b : 0 ≤ x / p := Int.ediv_nonneg h0 (by omega)
 have c : y * q % 16777216 = q * (y % p) := by rw [← hpq, Int.mul_comm p q, Int.mul_comm y q, Int.mul_emod_mul_of_pos _ _ hq]
 have d : y % p ≤ p - 1 := by have := Int.emod_lt_of_pos y hp; omega
 have e : q * (y % p) ≤ q * (p - 1) := Int.mul_le_mul_of_nonneg_left d (by omega)
 have f : 0 ≤ q * (y % p) := Int.mul_nonneg (by omega) (Int.emod_nonneg _ (by omega))
 rw [Int.mul_sub, Int.mul_comm q p, hpq] at e
 rw [c]; omega
theorem shrL_lims {p q : Int} (hp : 0 < p) (hpq : p * q = 16777216) {l : List Int} (h : Lims l) : Lims (shrL p q l) := by
 induction l with
 | nil => intro x hx; simp [shrL] at hx
 | cons x r ih =>
  intro z hz
  rcases List.mem_cons.1 hz with rfl | hz
  ·have := limb_or h.head.1 h.head.2 hp hpq (h.tail.nth 0).1
   omega
  ·exact ih h.tail z hz
theorem Lims.drop {l : List Int} (h : Lims l) (n : Nat) : Lims (l.drop n) := fun x hx => h x (List.mem_of_mem_drop hx)
theorem val_drop (l : List Int) (n : Nat) (h : Lims l) : val (l.drop n) = val l / 16777216 ^ n := by
 by_cases hn : n ≤ l.length
 ·have e : val l = val (l.take n) + 16777216 ^ n * val (l.drop n) := by
   conv => lhs; rw [← List.take_append_drop n l]
   rw [val_append, List.length_take, Nat.min_eq_left hn]
  have h1 := val_nonneg (h.take n)
  have h2 := val_lt (h.take n)
  rw [List.length_take, Nat.min_eq_left hn] at h2
  have hp : (0 : Int) < 16777216 ^ n := Int.pow_pos (by decide)
  rw [e, Int.add_mul_ediv_left _ _ (by omega), Int.ediv_eq_zero_of_lt h1 h2, Int.zero_add]
 ·rw [List.drop_eq_nil_of_le (by omega)]
  have h1 := val_nonneg h
  have h2 := val_lt h
  have h3 := pow_le (a := l.length) (b := n) (by omega)
  rw [Int.ediv_eq_zero_of_lt h1 (by omega)]; rfl
theorem shr_digs (x k : Nat) : trimL (shrL ((2 ^ (k % 24) : Nat) : Int) ((2 ^ (24 - k % 24) : Nat) : Int) ((digs x).drop (k / 24))) = digs (x / 2 ^ k) := by
 have hp : (0 : Int) < ((2 ^ (k % 24) : Nat) : Int) := by have := Nat.two_pow_pos (k % 24); omega
 have hpq : ((2 ^ (k % 24) : Nat) : Int) * ((2 ^ (24 - k % 24) : Nat) : Int) = 16777216 := by
  rw [← Int.natCast_mul, ← Nat.pow_add, show k % 24 + (24 - k % 24) = 24 from by omega]; rfl
 refine trim_digs (shrL_lims hp hpq ((digs_can x).1.drop _)) ?_
 rw [shrL_val hp hpq, val_drop _ _ (digs_can x).1, digs_val, ← pow_cast, pow_split k, ← Nat.div_div_eq_div_mul, Int.natCast_ediv, Int.natCast_ediv]
theorem nth_td (S u : List Int) (i : Nat) (hS : S.length = u.length) (h : i < u.length) : nth (S.take i ++ u.drop i) i = nth u i := by
 rw [nth_lt (by simp; omega), nth_lt h, List.getElem_append_right (by simp; omega)]
 simp [Nat.min_eq_left (show i ≤ S.length by omega)]
theorem set_td (S u : List Int) (i : Nat) (hS : S.length = u.length) (h : i < u.length) : (S.take i ++ u.drop i).set i (nth S i) = S.take (i + 1) ++ u.drop (i + 1) := by
 rw [List.set_append_right _ _ (by simp; omega), List.length_take, Nat.min_eq_left (by omega), Nat.sub_self, List.drop_eq_getElem_cons h, List.set_cons_zero, List.take_succ_eq_append_getElem (by omega), List.append_assoc, nth_lt (by omega)]
 rfl
theorem or_low {u v : Int} (k : Nat) (hk : k ≤ 62) (h0 : 0 ≤ u) (h1 : u < 2 ^ k) (h2 : 0 ≤ v) (h3 : v % 2 ^ k = 0) (h4 : v < 2 ^ 62) : bits .or .i64 u v = u + v := by
 have hc : bits .or .i64 u v = bits .or .i64 v u := by simp only [bits, BitVec.or_comm]
 have hp : (2 : Int) ^ k ≤ 2 ^ 62 := by
  have : (2 ^ k : Nat) ≤ 2 ^ 62 := Nat.pow_le_pow_right (by decide) hk
  have e1 : ((2 ^ k : Nat) : Int) = (2 : Int) ^ k := Int.natCast_pow 2 k
  rw [← e1]; omega
 rw [hc, bits_join .i64 62 (by decide) (fun n a b => by rw [IntKind.wrap_i64]; omega) k v u h2 h3 h4 h0 h1 (by omega)]
 omega
theorem shr_or {a b : Int} {k : Nat} (hk : k < 24) (a0 : 0 ≤ a) (a1 : a < 16777216) (b0 : 0 ≤ b) (b1 : b < 16777216) :
  bits .or .i64 (a / 2 ^ k) (bits .and .i64 (wrap64 (b * 2 ^ (24 - k))) 16777215) = a / ((2 ^ k : Nat) : Int) + b * ((2 ^ (24 - k) : Nat) : Int) % 16777216 := by
 have e1 : (2 : Int) ^ k = ((2 ^ k : Nat) : Int) := (Int.natCast_pow 2 k).symm
 have e2 : (2 : Int) ^ (24 - k) = ((2 ^ (24 - k) : Nat) : Int) := (Int.natCast_pow 2 (24 - k)).symm
 have hp : (0 : Int) < ((2 ^ k : Nat) : Int) := by have := Nat.two_pow_pos k; omega
 have hpq : ((2 ^ k : Nat) : Int) * ((2 ^ (24 - k) : Nat) : Int) = 16777216 := by
  rw [← Int.natCast_mul, ← Nat.pow_add, show k + (24 - k) = 24 from by omega]; rfl
 have hq : ((2 ^ (24 - k) : Nat) : Int) ≤ 16777216 := by
  have : (2 : Nat) ^ (24 - k) ≤ 2 ^ 24 := Nat.pow_le_pow_right (by decide) (by omega)
  omega
 have hl := limb_or a0 a1 hp hpq b0
 rw [e1, e2, i64_mask24]
 have hb : b * ((2 ^ (24 - k) : Nat) : Int) ≤ b * 16777216 := Int.mul_le_mul_of_nonneg_left hq b0
 have hb0 : 0 ≤ b * ((2 ^ (24 - k) : Nat) : Int) := Int.mul_nonneg b0 (by omega)
 rw [wrap_id (by omega) (by omega)]
 refine or_low (24 - k) (by omega) hl.2.2.2 (by rw [e2]; exact hl.2.2.1) (by omega) ?_ (by omega)
 rw [e2, ← hpq, Int.mul_comm (((2 ^ k : Nat) : Int)), Int.mul_comm b, Int.mul_emod_mul_of_pos _ _ (by omega)]
 exact Int.mul_emod_right _ _
theorem nth_ext {a b : List Int} (h : a.length = b.length) (e : ∀ t, t < a.length → nth a t = nth b t) : a = b := by
 apply List.ext_getElem h
 intro i h1 h2
 have := e i h1
 rwa [nth_lt h1, nth_lt h2] at this
theorem nth_rev {l : List Int} {t : Nat} (h : t < l.length) : nth l.reverse t = nth l (l.length - 1 - t) := by
 rw [nth_lt (by simpa using h), nth_lt (by omega), List.getElem_reverse]
def Turned (l cur : List Int) (i : Nat) : Prop := cur.length = l.length ∧ ∀ t, t < l.length → nth cur t = if t < i ∨ l.length ≤ t + i then nth l (l.length - 1 - t) else nth l t
theorem turned_zero (l : List Int) : Turned l l 0 := ⟨rfl, fun t h => by rw [if_neg (by omega)]⟩
theorem turned_step {l cur : List Int} {i : Nat} (h : Turned l cur i) (hi : i + i + 1 < l.length) : Turned l ((cur.set i (nth cur (l.length - 1 - i))).set (l.length - 1 - i) (nth cur i)) (i + 1) := by
 obtain ⟨h1, h2⟩ := h
 refine ⟨by simp [h1], fun t ht => ?_⟩
 have a := h2 i (by omega)
 have b := h2 (l.length - 1 - i) (by omega)
 rw [if_neg (by omega)] at a b
 by_cases e1 : t = l.length - 1 - i
 ·subst e1
  rw [nth_set_eq (by simp [h1]; omega), a, if_pos (by omega)]
  congr 1; omega
 ·rw [nth_set_ne (fun e => e1 e.symm)]
  by_cases e2 : t = i
  ·subst e2
   rw [nth_set_eq (by omega), b, if_pos (by omega)]
  ·rw [nth_set_ne (fun e => e2 e.symm), h2 t ht]
   by_cases e3 : t < i ∨ l.length ≤ t + i
   ·rw [if_pos e3, if_pos (by omega)]
   ·rw [if_neg e3, if_neg (by omega)]
theorem turned_done {l cur : List Int} {i : Nat} (h : Turned l cur i) (hi : l.length ≤ i + i + 1) : cur = l.reverse := by
 obtain ⟨h1, h2⟩ := h
 refine nth_ext (by simp [h1]) (fun t ht => ?_)
 rw [h1] at ht
 rw [h2 t ht, nth_rev ht]
 by_cases e : t < i ∨ l.length ≤ t + i
 ·rw [if_pos e]
 ·rw [if_neg e]; congr 1; omega
theorem root_ex (x : Nat) : ∃ r, r * r ≤ x ∧ x < (r + 1) * (r + 1) := by
 induction x with
 | zero => exact ⟨0, by omega, by omega⟩
 | succ x ih =>
  obtain ⟨r, h1, h2⟩ := ih
  by_cases h : (r + 1) * (r + 1) ≤ x + 1
  ·refine ⟨r + 1, h, ?_⟩
   have : (r + 1 + 1) * (r + 1 + 1) = (r + 1) * (r + 1) + 2 * (r + 1) + 1 := by
    rw [Nat.add_mul, Nat.mul_add]; omega
   omega
  ·exact ⟨r, by omega, by omega⟩
noncomputable def rootN (x : Nat) : Nat := Classical.choose (root_ex x)
theorem rootN_le (x : Nat) : rootN x * rootN x ≤ x := (Classical.choose_spec (root_ex x)).1
theorem rootN_lt (x : Nat) : x < (rootN x + 1) * (rootN x + 1) := (Classical.choose_spec (root_ex x)).2
theorem sq_lt {a b : Nat} (h : a * a < (b + 1) * (b + 1)) : a ≤ b := by
 rcases Nat.lt_or_ge b a with h1 | h1
 ·have := Nat.mul_le_mul h1 h1; simp only [Nat.succ_eq_add_one] at this; omega
 ·exact h1
theorem rootN_eq {x r : Nat} (h1 : r * r ≤ x) (h2 : x < (r + 1) * (r + 1)) : rootN x = r := by
 have a := sq_lt (Nat.lt_of_le_of_lt h1 (rootN_lt x))
 have b := sq_lt (Nat.lt_of_le_of_lt (rootN_le x) h2)
 omega
theorem root_start (x : Nat) : x / 4 ^ ((blen x + 1) / 2) = 0 := by
 apply Nat.div_eq_of_lt
 have h := blen_lt x
 have : (4 : Nat) ^ ((blen x + 1) / 2) = 2 ^ (2 * ((blen x + 1) / 2)) := by rw [Nat.pow_mul]
 rw [this]
 exact Nat.lt_of_lt_of_le h (Nat.pow_le_pow_right (by decide) (by omega))
theorem root_next (x u : Nat) : x / 4 ^ u = 4 * (x / 4 ^ (u + 1)) + x / 4 ^ u % 4 := by
 rw [Nat.pow_succ, ← Nat.div_div_eq_div_mul]; omega
theorem root_bits (x u q s : Nat) (hq : q = 2 * u / 24) (hs : s = 2 * u % 24) : bits .and .i64 (nth (digs x) q / 2 ^ s) 3 = ((x / 4 ^ u % 4 : Nat) : Int) := by
 have hm : bits .and .i64 (nth (digs x) q / 2 ^ s) 3 = (nth (digs x) q / 2 ^ s) % 2 ^ 2 := i64_mask _ 2 (by decide)
 rw [hm]
 have hc := (digs_can x).1
 have e1 : val ((digs x).drop q) = ((x / 16777216 ^ q : Nat) : Int) := by
  rw [val_drop _ _ hc, digs_val, ← pow_cast, ← Int.natCast_ediv]
 have e2 : ∃ r : Nat, val ((digs x).drop q) = nth (digs x) q + 16777216 * (r : Int) := by
  by_cases h : q < (digs x).length
  ·rw [List.drop_eq_getElem_cons h, nth_lt h]
   have := val_nonneg (hc.drop (q + 1))
   exact ⟨(val ((digs x).drop (q + 1))).toNat, by simp only [val]; omega⟩
  ·rw [List.drop_eq_nil_of_le (by omega), nth_ge (by omega)]
   exact ⟨0, rfl⟩
 obtain ⟨r, e2⟩ := e2
 have h0 := hc.nth q
 obtain ⟨y, hy⟩ : ∃ y : Nat, nth (digs x) q = y := ⟨_, (Int.toNat_of_nonneg h0.1).symm⟩
 rw [hy] at e2 h0 ⊢
 have e3 : x / 16777216 ^ q = y + 16777216 * r := by rw [e1] at e2; omega
 have e4 : (4 : Nat) ^ u = 16777216 ^ q * 2 ^ s := by
  rw [show (16777216 : Nat) = 2 ^ 24 from rfl, show (4 : Nat) = 2 ^ 2 from rfl, ← Nat.pow_mul, ← Nat.pow_mul, ← Nat.pow_add]; congr 1; omega
 have e5 : (2 : Int) ^ s = ((2 ^ s : Nat) : Int) := (Int.natCast_pow 2 s).symm
 rw [e4, ← Nat.div_div_eq_div_mul, e3, e5, ← Int.natCast_ediv, show (2 : Int) ^ 2 = ((4 : Nat) : Int) from rfl, ← Int.natCast_emod]
 congr 1
 have hs2 : s ≤ 22 := by omega
 have e6 : (16777216 : Nat) = 2 ^ s * (4 * 2 ^ (22 - s)) := by
  rw [show (4 : Nat) = 2 ^ 2 from rfl, ← Nat.pow_add, ← Nat.pow_add, show s + (2 + (22 - s)) = 24 from by omega]
 rw [show y + 16777216 * r = y + 2 ^ s * (4 * (2 ^ (22 - s) * r)) from by rw [show 2 ^ s * (4 * (2 ^ (22 - s) * r)) = 2 ^ s * (4 * 2 ^ (22 - s)) * r from by ac_rfl, ← e6], Nat.add_mul_div_left _ _ (Nat.two_pow_pos s)]
 omega
theorem up_val {l : List Int} {m by_ : Nat} {inn : Int} (hl : l.length = m) (hL : Lims l) (h0 : 0 ≤ inn) (h1 : inn + val l * ((2 ^ by_ : Nat) : Int) < 16777216 ^ m) :
  val (limbs m inn (fun j => nth l j * ((2 ^ by_ : Nat) : Int))) = inn + val l * ((2 ^ by_ : Nat) : Int) := by
 have e : sumf m (fun j => nth l j * ((2 ^ by_ : Nat) : Int)) = val l * ((2 ^ by_ : Nat) : Int) := by
  rw [sumf_mul, sumf_nth _ _ (by omega)]
 have := Int.mul_nonneg (val_nonneg hL) (Int.natCast_nonneg (2 ^ by_))
 rw [limbs_fit _ _ _ (by rw [e]; omega) (by rw [e]; exact h1), e]
theorem sub_val {a b : List Int} {m : Nat} (ha : a.length = m) (hb : b.length = m) (hA : Lims a) (hB : Lims b) (h : val b ≤ val a) : val (limbs m 0 (fun j => nth a j - nth b j)) = val a - val b := by
 have e : sumf m (fun j => nth a j - nth b j) = val a - val b := by rw [sumf_sub, sumf_nth _ _ (by omega), sumf_nth _ _ (by omega)]
 have h1 := val_lt hA
 have h2 := val_nonneg hB
 rw [ha] at h1
 rw [limbs_fit _ _ _ (by rw [e]; omega) (by rw [e]; omega), e]; exact Int.zero_add _
theorem root_fit {x R m n : Nat} (hx : x < 16777216 ^ n) (hn : n ≤ 2 * (m - 1)) (hR : R * R ≤ x) : R < 16777216 ^ (m - 1) := by
 rcases Nat.lt_or_ge R (16777216 ^ (m - 1)) with h | h
 ·exact h
 ·have h1 := Nat.mul_le_mul h h
  rw [← Nat.pow_add] at h1
  have h2 : (16777216 : Nat) ^ n ≤ 16777216 ^ (m - 1 + (m - 1)) := Nat.pow_le_pow_right (by decide) (by omega)
  omega
theorem cmpTop_all {a b : List Int} {m : Nat} (ha : Lims a) (hb : Lims b) (h1 : a.length = m) (h2 : b.length = m) : cmpTop a b m = cmpI (val a) (val b) := by
 have := cmpTop_val ha hb m (by omega) (by omega)
 rw [List.take_of_length_le (by omega), List.take_of_length_le (by omega)] at this
 exact this
structure RootAt (x m u R D : Nat) : Prop where
 eq : R * R + D = x / 4 ^ u
 le : D ≤ 2 * R
 fit : R < 16777216 ^ (m - 1)
theorem root_bound {x m u R D : Nat} (h : RootAt x m u R D) (hm : 2 ≤ m) : 4 * D + 3 < 16777216 ^ m ∧ 4 * R + 1 < 16777216 ^ m ∧ 2 * R + 1 < 16777216 ^ m := by
 have h1 := h.fit
 have h2 := h.le
 obtain ⟨k, rfl⟩ : ∃ k, m = k + 1 := ⟨m - 1, by omega⟩
 rw [Nat.add_sub_cancel] at h1
 rw [Nat.pow_succ]
 omega
theorem root_zero {x m : Nat} : RootAt x m ((blen x + 1) / 2) 0 0 := ⟨by rw [root_start], by omega, Nat.pow_pos (by decide)⟩
theorem root_yes {x m n u R D b : Nat} (h : RootAt x m (u + 1) R D) (hb : b = x / 4 ^ u % 4) (hx : x < 16777216 ^ n) (hn : n ≤ 2 * (m - 1)) (ht : 4 * R + 1 ≤ 4 * D + b) : RootAt x m u (2 * R + 1) (4 * D + b - (4 * R + 1)) := by
 have e := root_next x u
 have e1 := h.eq
 have e2 := h.le
 have hs : (2 * R + 1) * (2 * R + 1) = 4 * (R * R) + 4 * R + 1 := by
  rw [Nat.add_mul, Nat.mul_add, show 2 * R * (2 * R) = 4 * (R * R) from by rw [Nat.mul_mul_mul_comm]]; omega
 have hq : (2 * R + 1) * (2 * R + 1) + (4 * D + b - (4 * R + 1)) = x / 4 ^ u := by rw [hs, e, ← hb, ← e1]; omega
 exact ⟨hq, by omega, root_fit hx hn (Nat.le_trans (by omega) (Nat.le_trans (Nat.le_of_eq hq) (Nat.div_le_self x (4 ^ u))))⟩
theorem root_no {x m n u R D b : Nat} (h : RootAt x m (u + 1) R D) (hb : b = x / 4 ^ u % 4) (hx : x < 16777216 ^ n) (hn : n ≤ 2 * (m - 1)) (ht : 4 * D + b < 4 * R + 1) : RootAt x m u (2 * R) (4 * D + b) := by
 have e := root_next x u
 have e1 := h.eq
 have hs : 2 * R * (2 * R) = 4 * (R * R) := by rw [Nat.mul_mul_mul_comm]
 have hq : 2 * R * (2 * R) + (4 * D + b) = x / 4 ^ u := by rw [hs, e, ← hb, ← e1]; omega
 exact ⟨hq, by omega, root_fit hx hn (Nat.le_trans (by omega) (Nat.le_trans (Nat.le_of_eq hq) (Nat.div_le_self x (4 ^ u))))⟩
theorem root_end {x m R D : Nat} (h : RootAt x m 0 R D) : rootN x = R := by
 have e := h.eq
 have e2 := h.le
 rw [Nat.pow_zero, Nat.div_one] at e
 refine rootN_eq (by omega) ?_
 rw [Nat.add_mul, Nat.mul_add]; omega
theorem nat_lt_int {a m : Nat} (h : a < 16777216 ^ m) : (a : Int) < 16777216 ^ m := by rw [← pow_cast]; exact Int.ofNat_lt.2 h
theorem drop_step (l : List Int) (i : Nat) : val (l.drop i) = nth l i + 16777216 * val (l.drop (i + 1)) := by
 by_cases h : i < l.length
 ·rw [List.drop_eq_getElem_cons h, nth_lt h]; rfl
 ·rw [List.drop_eq_nil_of_le (by omega), List.drop_eq_nil_of_le (by omega), nth_ge (by omega)]; rfl
theorem val_drop_le {l : List Int} (h : Lims l) (i : Nat) : val (l.drop i) ≤ val l := by
 rw [val_drop l i h]
 exact Int.ediv_le_self _ (val_nonneg h)
theorem digs_one : digs 1 = [1] := by rw [digs_pos (by decide), show 1 / 16777216 = 0 from rfl, digs_zero]; rfl
theorem sq_le_self {R x : Nat} (h : R * R ≤ x) : R ≤ x := by
 rcases Nat.eq_zero_or_pos R with h0 | h0
 ·omega
 ·have := Nat.mul_le_mul_left R h0; omega
theorem digs_len_mono {x y : Nat} (h : x ≤ y) : (digs x).length ≤ (digs y).length := digs_len_le.2 (Nat.lt_of_le_of_lt h (digs_lt y))
end Pl
namespace N1
open Go.RowKit Go.Proofs.YtalbgklfhabnkaaGreatDoor Ow Pl
theorem trim_calls (A : Option Addr) (c : Nat) (l : List Int) (w : World) (h : Rd w A l) (hc : l.length ≤ c) :
  Calls Tryz.prog 187 #[.slice A l.length c] w fun e w' => e = .returned (.slice A (trimL l).length c) ∧ w = w' := by
 have hm := h.max
 have H := Ho.mk h
 have HL : Hid (trimN l l.length ≤ l.length) := trimN_le l _
 clear h
 go_enter Tryz.func187, Tryz.ntmps187
 go_wp2
 go_loop [0] (fun v => ∃ n : Nat, n ≤ l.length ∧ v = .slice A n c ∧ Ho (trimN l n = trimN l l.length)) (fun v => match v with | .slice _ n _ => n | _ => 0)
 case atStart => exact ⟨l.length, Nat.le_refl _, rfl, ⟨rfl⟩⟩
 case round =>
  obtain ⟨n, hn, rfl, ht⟩ := hrel
  rcases Nat.eq_zero_or_pos n with h0 | h0
  ·subst h0
   go_wp2
   go_ret
   have e : trimN l l.length = 0 := ht.out.symm
   exact ⟨by simp [trimL, e], rfl⟩
  ·obtain ⟨m, rfl⟩ : ∃ m, n = m + 1 := ⟨n - 1, by omega⟩
   obtain ⟨ad, rfl, hcell⟩ := H.out.cell m (by omega)
   by_cases hz : nth l m = 0
   ·rw [hz] at hcell
    have ht' : Ho (trimN l m = trimN l l.length) := ⟨by rw [← ht.out]; simp only [trimN]; rw [if_pos hz]⟩
    clear hz ht
    go_wp2
    go_round
    case rel => exact ⟨m, by omega, by simp, ht'⟩
    case measure => simp
   ·have ht' : Ho (trimN l l.length = m + 1) := ⟨by rw [← ht.out]; simp only [trimN]; rw [if_neg hz]⟩
    have hb : (nth l m == 0) = false := beq_eq_false_iff_ne.mpr hz
    clear ht hz
    go_wp2
    go_ret
    exact ⟨by simp [trimL, ht'.out]; omega, rfl⟩
end N1
namespace N2
open Go.RowKit Go.Proofs.YtalbgklfhabnkaaGreatDoor Ow Pl N1
theorem info3 : (Tryz.prog.info? 3).map (fun i => (i.zero, i.size, i.bytes)) = some (some (.int .i64 0), 1, 8) := by kernel_rfl
theorem size3 : (Tryz.prog.info? 3).map (·.size) = some 1 := by kernel_rfl
theorem get_calls (A : Option Addr) (c : Nat) (l : List Int) (i : Nat) (w : World) (h : Rd w A l) :
  Calls Tryz.prog 201 #[.slice A l.length c, .int .i64 (i : Int)] w fun e w' => e = .returned (.int .i64 (nth l i)) ∧ w = w' := by
 have hm := h.max
 by_cases hl : i < l.length
 ·obtain ⟨ad, rfl, x⟩ := h.cell i hl
  clear h
  go_enter Tryz.func201, Tryz.ntmps201
  go_wp2
  go_ret
  exact ⟨rfl, rfl⟩
 ·have e : Ho (nth l i = 0) := ⟨nth_ge (by omega)⟩
  clear h
  go_enter Tryz.func201, Tryz.ntmps201
  go_wp2
  go_ret
  exact ⟨by rw [e.out]; rfl, rfl⟩
theorem put_calls (b0 : Nat) (cr s : Int) (w : World) (h : Blk w b0 246 [.int .i64 cr]) (h1 : -562949953421312 ≤ s) (h2 : s ≤ 562949953421312) (h3 : -562949953421312 ≤ cr) (h4 : cr ≤ 562949953421312) :
  Calls Tryz.prog 186 #[.pointer (some ⟨b0, 0, none⟩), .int .i64 s] w fun e w' => e = .returned (.int .i64 ((s + cr) % 16777216)) ∧ w.setCell ⟨b0, 0, none⟩ (.int .i64 ((s + cr) / 16777216)) = w' := by
 have a0 := h.cell (i := 0) (v := .int .i64 cr) rfl
 have a1 := h.free 0
 clear h
 go_enter Tryz.func186, Tryz.ntmps186
 go_wp2
 go_ret
 exact ⟨by rw [← i64_mask24]; rfl, rfl⟩
theorem add1_calls (b0 b1 : Nat) (cr x y : Int) (w : World) (h : Blk w b0 246 [.int .i64 cr]) (hB1 : Blk w b1 145 [.func (.func 186) #[.pointer (some ⟨b0, 0, none⟩)] #[]])
  (h1 : 0 ≤ x) (h2 : x < 16777216) (h1' : 0 ≤ y) (h2' : y < 16777216) (h3 : 0 ≤ cr) (h4 : cr ≤ 2) :
  Calls Tryz.prog 203 #[.int .i64 x, .int .i64 y, .pointer (some ⟨b1, 0, none⟩)] w fun e w' => e = .returned (.int .i64 ((x + y + cr) % 16777216)) ∧ w.setCell ⟨b0, 0, none⟩ (.int .i64 ((x + y + cr) / 16777216)) = w' := by
 have a2 := hB1.cell (i := 0) rfl
 have H := Ho.mk h
 clear h hB1
 go_enter Tryz.func203, Tryz.ntmps203
 go_wp2_with (go_at_call 186; refine (put_calls _ cr _ _ H.out (by omega) (by omega) (by omega) (by omega)).mono ?_; rintro e w' ⟨rfl, rfl⟩)
 go_ret
 exact ⟨rfl, rfl⟩
theorem sub1_calls (b0 : Nat) (cr x y : Int) (w : World) (h : Blk w b0 246 [.int .i64 cr])
  (h1 : 0 ≤ x) (h2 : x < 16777216) (h1' : 0 ≤ y) (h2' : y < 16777216) (h3 : -1 ≤ cr) (h4 : cr ≤ 0) :
  Calls Tryz.prog 190 #[.int .i64 x, .int .i64 y, .pointer (some ⟨b0, 0, none⟩)] w fun e w' => e = .returned (.int .i64 ((x - y + cr) % 16777216)) ∧ w.setCell ⟨b0, 0, none⟩ (.int .i64 ((x - y + cr) / 16777216)) = w' := by
 have H := Ho.mk h
 clear h
 go_enter Tryz.func190, Tryz.ntmps190
 go_wp2_with (go_at_call 186; refine (put_calls _ cr _ _ H.out (by omega) (by omega) (by omega) (by omega)).mono ?_; rintro e w' ⟨rfl, rfl⟩)
 go_ret
 exact ⟨rfl, rfl⟩
end N2
namespace N3
open Go.RowKit Go.Proofs.YtalbgklfhabnkaaGreatDoor Ow Pl N1 N2
theorem set_done (done : List Int) (i m : Nat) (v : Int) (h : done.length = i) (hi : i < m) : (done ++ List.replicate (m - i) 0).set i v = (done ++ [v]) ++ List.replicate (m - (i + 1)) 0 := by
 obtain ⟨d, hd⟩ : ∃ d, m - i = d + 1 := ⟨m - i - 1, by omega⟩
 rw [hd, show m - (i + 1) = d from by omega, List.set_append_right _ _ (by omega), h, Nat.sub_self, List.replicate_succ]
 simp
theorem alongAdd_calls (A0 A1 : Option Addr) (c0 c1 : Nat) (l0 l1 : List Int) (m b0 b1 : Nat) (mi : Int) (hmi : mi = (m : Int)) (w : World) (h0 : RdB b0 w A0 l0) (hc0 : l0.length ≤ c0) (h1 : RdB b0 w A1 l1) (hc1 : l1.length ≤ c1)
  (hm : m ≤ 100000) (hb : b0 < b1)
  (hf0 : ∀ i, 0 ≤ nth l0 i ∧ nth l0 i < 16777216) (hf1 : ∀ i, 0 ≤ nth l1 i ∧ nth l1 i < 16777216)
  (hB0 : Blk w b0 246 [.int .i64 0]) (hB1 : Blk w b1 145 [.func (.func 186) #[.pointer (some ⟨b0, 0, none⟩)] #[]]) :
  Calls Tryz.prog 189 #[.slice A0 l0.length c0, .slice A1 l1.length c1, .int .i64 mi, .func (.func 203) #[] #[.pointer (some ⟨b1, 0, none⟩)]] w
   fun e w' => ∃ A c, e = .returned (.slice A (trimL (limbs m 0 fun i => nth l0 i + nth l1 i)).length c) ∧ (trimL (limbs m 0 fun i => nth l0 i + nth l1 i)).length ≤ c ∧ Rd w' A (trimL (limbs m 0 fun i => nth l0 i + nth l1 i)) ∧ Below b0 w w' := by
 subst hmi
 have H0 := Ho.mk h0
 have H1 := Ho.mk h1
 have HB0 := Ho.mk hB0
 have HB1 := Ho.mk hB1
 have HF0 := Ho.mk hf0
 have HF1 := Ho.mk hf1
 clear h0 h1 hB0 hB1 hf0 hf1
 go_enter Tryz.func189, Tryz.ntmps189
 go_wp2_with (at_make; refine wpList_mk _ rfl _ _ 35 rfl 3 (.int .i64 0) 8 Tryz.underlying35 info3 rfl m rfl rfl (by omega) (by omega) ?_; intro w1 hk1 hl1 hs1)
 have hlt0 := HB0.out.lt
 have hlt1 := HB1.out.lt
 obtain ⟨bo, hbo⟩ : ∃ bo, bo = w.heap.size := ⟨_, rfl⟩
 rw [← hbo] at hk1 hs1 hlt0 hlt1 ⊢
 have HK1 := Ho.mk hk1
 have HL1 := Ho.mk hl1
 have HBO := Ho.mk hbo
 have HS1 : bo < w1.heap.size := by omega
 clear hk1 hl1 hbo hs1
 go_loopw [16] (fun v16 wr => ∃ (i : Nat) (cr : Int) (done : List Int), i ≤ m ∧ v16 = .int .i64 i ∧ 0 ≤ cr ∧ cr ≤ 2 ∧
   Ho (Blk wr b0 246 [.int .i64 cr]) ∧ Ho (Blk wr b1 145 [.func (.func 186) #[.pointer (some ⟨b0, 0, none⟩)] #[]]) ∧
   Ho (Blk wr bo 3 (ints (done ++ List.replicate (m - i) 0))) ∧ Ho (Below b0 w wr) ∧ Ho (w.heap.size < wr.heap.size) ∧ Ho (done.length = i) ∧
   Ho (done ++ limbs (m - i) cr (fun j => nth l0 (i + j) + nth l1 (i + j)) = limbs m 0 fun j => nth l0 j + nth l1 j)) (fun v16 _ => m - (intOf v16).toNat)
 case atStart =>
  exact ⟨0, 0, [], Nat.zero_le _, rfl, by omega, by omega, ⟨HB0.out.bel HL1.out⟩, ⟨HB1.out.bel HL1.out⟩, ⟨by rw [Nat.sub_zero, List.nil_append, ← ints_rep]; exact HK1.out⟩, ⟨HL1.out.out.mono (by have := HBO.out; omega)⟩, ⟨by have := HBO.out; omega⟩, ⟨rfl⟩, ⟨by simp⟩⟩
 case round =>
  obtain ⟨i, cr, done, hi, rfl, hc1, hc2, K0, K1, KO, HW, HS, HD, HF⟩ := hrel
  rcases Nat.lt_or_ge i m with hlt | hge
  ·have R0 := Ho.mk (H0.out.below HW.out)
   have R1 := Ho.mk (H1.out.below HW.out)
   have f0 := HF0.out i
   have f1 := HF1.out i
   obtain ⟨g00, g01⟩ := f0
   obtain ⟨g10, g11⟩ := f1
   have hlen : i < (done ++ List.replicate (m - i) (0 : Int)).length := by simp [HD.out]; omega
   have y0 := KO.out.cell (owInts_at _ hlen)
   have y1 := KO.out.free i
   have hn1 : ¬ bo = b0 := by omega
   have hn2 : ¬ b0 = bo := by omega
   clear hlen
   go_wp2_with (first | (go_at_call 201; ((with_reducible first | refine (get_calls _ _ l0 i _ R0.out).mono ?_ | refine (get_calls _ _ l1 i _ R1.out).mono ?_); rintro e w' ⟨rfl, rfl⟩)) | (go_at_call 203; (with_reducible refine (add1_calls b0 b1 cr _ _ _ K0.out K1.out (by omega) (by omega) (by omega) (by omega) (by omega) (by omega)).mono ?_); rintro e w' ⟨rfl, rfl⟩))
   go_roundw
   case rel =>
    have hd := limbs_step (fun j => nth l0 j + nth l1 j) i m cr done hlt
    refine ⟨i + 1, (nth l0 i + nth l1 i + cr) / 16777216, done ++ [(nth l0 i + nth l1 i + cr) % 16777216], by omega, by simp, by omega, by omega, ⟨(K0.out.set 0 _).far hn2 _⟩, ⟨(K1.out.far (by simp; omega) _).far (by simp; omega) _⟩, ⟨?_⟩, ⟨(HW.out.setCell (by simp) _).setCell (by simp; omega) _⟩, ⟨by simpa [World.setCell] using HS.out⟩, ⟨by simp [HD.out]⟩, ⟨by rw [hd]; exact HF.out⟩⟩
    have hk := (KO.out.far hn1 (p := ⟨b0, 0, none⟩) (.int .i64 ((nth l0 i + nth l1 i + cr) / 16777216))).set i (.int .i64 ((nth l0 i + nth l1 i + cr) % 16777216))
    rw [ints_set, set_done _ _ _ _ HD.out hlt] at hk
    exact hk
   case measure => simp [intOf]; omega
  ·obtain rfl : i = m := by omega
   have ed : done = limbs i 0 fun j => nth l0 j + nth l1 j := by have := HF.out; rwa [Nat.sub_self, limbs, List.append_nil] at this
   have R : Rd wr (some ⟨bo, 0, none⟩) done := by
    have := KO.out.rd (by simp [HD.out]; omega)
    rwa [Nat.sub_self, List.replicate_zero, List.append_nil] at this
   have HR := Ho.mk R
   have HE := Ho.mk ed
   clear R ed
   go_wp2_with (go_at_call 187; rw [← HD.out]; refine (trim_calls _ _ _ _ HR.out (Nat.le_refl _)).mono ?_; rintro e w' ⟨rfl, rfl⟩)
   go_ret
   rw [← HE.out]
   exact ⟨_, _, rfl, by have := trimN_le done done.length; simp [trimL]; omega, HR.out.take _, HW.out⟩
theorem alongSub_calls (A0 A1 : Option Addr) (c0 c1 : Nat) (l0 l1 : List Int) (m b0 : Nat) (mi : Int) (hmi : mi = (m : Int)) (w : World) (h0 : RdB b0 w A0 l0) (hc0 : l0.length ≤ c0) (h1 : RdB b0 w A1 l1) (hc1 : l1.length ≤ c1)
  (hm : m ≤ 100000)
  (hf0 : ∀ i, 0 ≤ nth l0 i ∧ nth l0 i < 16777216) (hf1 : ∀ i, 0 ≤ nth l1 i ∧ nth l1 i < 16777216)
  (hB0 : Blk w b0 246 [.int .i64 0]) :
  Calls Tryz.prog 189 #[.slice A0 l0.length c0, .slice A1 l1.length c1, .int .i64 mi, .func (.func 190) #[] #[.pointer (some ⟨b0, 0, none⟩)]] w
   fun e w' => ∃ A c, e = .returned (.slice A (trimL (limbs m 0 fun i => nth l0 i - nth l1 i)).length c) ∧ (trimL (limbs m 0 fun i => nth l0 i - nth l1 i)).length ≤ c ∧ Rd w' A (trimL (limbs m 0 fun i => nth l0 i - nth l1 i)) ∧ Below b0 w w' := by
 subst hmi
 have H0 := Ho.mk h0
 have H1 := Ho.mk h1
 have HB0 := Ho.mk hB0
 skip
 have HF0 := Ho.mk hf0
 have HF1 := Ho.mk hf1
 clear h0 h1 hB0  hf0 hf1
 go_enter Tryz.func189, Tryz.ntmps189
 go_wp2_with (at_make; refine wpList_mk _ rfl _ _ 35 rfl 3 (.int .i64 0) 8 Tryz.underlying35 info3 rfl m rfl rfl (by omega) (by omega) ?_; intro w1 hk1 hl1 hs1)
 have hlt0 := HB0.out.lt
 skip
 obtain ⟨bo, hbo⟩ : ∃ bo, bo = w.heap.size := ⟨_, rfl⟩
 rw [← hbo] at hk1 hs1 hlt0  ⊢
 have HK1 := Ho.mk hk1
 have HL1 := Ho.mk hl1
 have HBO := Ho.mk hbo
 have HS1 : bo < w1.heap.size := by omega
 clear hk1 hl1 hbo hs1
 go_loopw [16] (fun v16 wr => ∃ (i : Nat) (cr : Int) (done : List Int), i ≤ m ∧ v16 = .int .i64 i ∧ -1 ≤ cr ∧ cr ≤ 0 ∧
   Ho (Blk wr b0 246 [.int .i64 cr]) ∧
   Ho (Blk wr bo 3 (ints (done ++ List.replicate (m - i) 0))) ∧ Ho (Below b0 w wr) ∧ Ho (w.heap.size < wr.heap.size) ∧ Ho (done.length = i) ∧
   Ho (done ++ limbs (m - i) cr (fun j => nth l0 (i + j) - nth l1 (i + j)) = limbs m 0 fun j => nth l0 j - nth l1 j)) (fun v16 _ => m - (intOf v16).toNat)
 case atStart =>
  exact ⟨0, 0, [], Nat.zero_le _, rfl, by omega, by omega, ⟨HB0.out.bel HL1.out⟩, ⟨by rw [Nat.sub_zero, List.nil_append, ← ints_rep]; exact HK1.out⟩, ⟨HL1.out.out.mono (by have := HBO.out; omega)⟩, ⟨by have := HBO.out; omega⟩, ⟨rfl⟩, ⟨by simp⟩⟩
 case round =>
  obtain ⟨i, cr, done, hi, rfl, hc1, hc2, K0, KO, HW, HS, HD, HF⟩ := hrel
  rcases Nat.lt_or_ge i m with hlt | hge
  ·have R0 := Ho.mk (H0.out.below HW.out)
   have R1 := Ho.mk (H1.out.below HW.out)
   have f0 := HF0.out i
   have f1 := HF1.out i
   obtain ⟨g00, g01⟩ := f0
   obtain ⟨g10, g11⟩ := f1
   have hlen : i < (done ++ List.replicate (m - i) (0 : Int)).length := by simp [HD.out]; omega
   have y0 := KO.out.cell (owInts_at _ hlen)
   have y1 := KO.out.free i
   have hn1 : ¬ bo = b0 := by omega
   have hn2 : ¬ b0 = bo := by omega
   clear hlen
   go_wp2_with (first | (go_at_call 201; ((with_reducible first | refine (get_calls _ _ l0 i _ R0.out).mono ?_ | refine (get_calls _ _ l1 i _ R1.out).mono ?_); rintro e w' ⟨rfl, rfl⟩)) | (go_at_call 190; (with_reducible refine (sub1_calls b0 cr _ _ _ K0.out (by omega) (by omega) (by omega) (by omega) (by omega) (by omega)).mono ?_); rintro e w' ⟨rfl, rfl⟩))
   go_roundw
   case rel =>
    have hd := limbs_step (fun j => nth l0 j - nth l1 j) i m cr done hlt
    refine ⟨i + 1, (nth l0 i - nth l1 i + cr) / 16777216, done ++ [(nth l0 i - nth l1 i + cr) % 16777216], by omega, by simp, by omega, by omega, ⟨(K0.out.set 0 _).far hn2 _⟩, ⟨?_⟩, ⟨(HW.out.setCell (by simp) _).setCell (by simp; omega) _⟩, ⟨by simpa [World.setCell] using HS.out⟩, ⟨by simp [HD.out]⟩, ⟨by rw [hd]; exact HF.out⟩⟩
    have hk := (KO.out.far hn1 (p := ⟨b0, 0, none⟩) (.int .i64 ((nth l0 i - nth l1 i + cr) / 16777216))).set i (.int .i64 ((nth l0 i - nth l1 i + cr) % 16777216))
    rw [ints_set, set_done _ _ _ _ HD.out hlt] at hk
    exact hk
   case measure => simp [intOf]; omega
  ·obtain rfl : i = m := by omega
   have ed : done = limbs i 0 fun j => nth l0 j - nth l1 j := by have := HF.out; rwa [Nat.sub_self, limbs, List.append_nil] at this
   have R : Rd wr (some ⟨bo, 0, none⟩) done := by
    have := KO.out.rd (by simp [HD.out]; omega)
    rwa [Nat.sub_self, List.replicate_zero, List.append_nil] at this
   have HR := Ho.mk R
   have HE := Ho.mk ed
   clear R ed
   go_wp2_with (go_at_call 187; rw [← HD.out]; refine (trim_calls _ _ _ _ HR.out (Nat.le_refl _)).mono ?_; rintro e w' ⟨rfl, rfl⟩)
   go_ret
   rw [← HE.out]
   exact ⟨_, _, rfl, by have := trimN_le done done.length; simp [trimL]; omega, HR.out.take _, HW.out⟩
end N3
namespace N4
open Go.RowKit Go.Proofs.YtalbgklfhabnkaaGreatDoor Ow Pl N1 N2 N3
theorem add_calls (A0 A1 : Option Addr) (c0 c1 x y : Nat) (w : World) (h0 : Rd w A0 (digs x)) (hc0 : (digs x).length ≤ c0) (h1 : Rd w A1 (digs y)) (hc1 : (digs y).length ≤ c1)
  (hx : (digs x).length ≤ 50000) (hy : (digs y).length ≤ 50000) :
  Calls Tryz.prog 192 #[.slice A0 (digs x).length c0, .slice A1 (digs y).length c1] w
   fun e w' => ∃ A c, e = .returned (.slice A (digs (x + y)).length c) ∧ (digs (x + y)).length ≤ c ∧ Rd w' A (digs (x + y)) ∧ Bel w w' := by
 obtain ⟨n, hn⟩ : ∃ n, n = max (digs x).length (digs y).length := ⟨_, rfl⟩
 have e := add_digs x y n (by omega) (by omega)
 have E := Ho.mk e
 have f0 := (digs_can x).1
 have f1 := (digs_can y).1
 have hm : ((max (digs x).length (digs y).length : Nat) : Int) = (n : Int) := by rw [hn]
 clear e
 generalize digs x = l0 at *
 generalize digs y = l1 at *
 have HN := Ho.mk hn
 have F0 := Ho.mk f0
 have F1 := Ho.mk f1
 clear f0 f1 hn hm
 have b0 : Blk ((w.alloc (.cells #[.int .i64 0] 246)).alloc (.cells #[.func (.func 186) #[.pointer (some ⟨w.heap.size, 0, none⟩)] #[]] 145)) w.heap.size 246 [.int .i64 0] := (Blk.new w [.int .i64 0] 246).old _
 have b1 : Blk ((w.alloc (.cells #[.int .i64 0] 246)).alloc (.cells #[.func (.func 186) #[.pointer (some ⟨w.heap.size, 0, none⟩)] #[]] 145)) (w.heap.size + 1) 145 [.func (.func 186) #[.pointer (some ⟨w.heap.size, 0, none⟩)] #[]] := by
  have := Blk.new (w.alloc (.cells #[.int .i64 0] 246)) [.func (.func 186) #[.pointer (some ⟨w.heap.size, 0, none⟩)] #[]] 145
  simpa using this
 have r0 := h0.rdB.bel (((Bel.refl w).alloc (.cells #[.int .i64 0] 246)).alloc (.cells #[.func (.func 186) #[.pointer (some ⟨w.heap.size, 0, none⟩)] #[]] 145))
 have r1 := h1.rdB.bel (((Bel.refl w).alloc (.cells #[.int .i64 0] 246)).alloc (.cells #[.func (.func 186) #[.pointer (some ⟨w.heap.size, 0, none⟩)] #[]] 145))
 have hB := ((Bel.refl w).alloc (.cells #[.int .i64 0] 246)).alloc (.cells #[.func (.func 186) #[.pointer (some ⟨w.heap.size, 0, none⟩)] #[]] 145)
 go_enter Tryz.func192, Tryz.ntmps192
 go_wp2_with (go_at_call 189; (with_reducible refine (alongAdd_calls A0 A1 c0 c1 l0 l1 (n + 1) w.heap.size (w.heap.size + 1) _ (by have := HN.out; omega) _ r0 hc0 r1 hc1 (by have := HN.out; omega) (by omega) F0.out.nth F1.out.nth b0 b1).mono ?_); rintro e w' ⟨A, c, rfl, hl, hr, hb⟩; rw [E.out] at hl hr)
 all_goals
  go_ret
  rw [← E.out]
  exact ⟨A, c, rfl, by rw [E.out]; exact hl, by rw [E.out]; exact hr, ⟨hB.out.trans hb⟩⟩
end N4
namespace N5
open Go.RowKit Go.Proofs.YtalbgklfhabnkaaGreatDoor Ow Pl N1 N2 N3 N4
theorem compare_calls (x y : Int) (w : World) : Calls Tryz.prog 191 #[.int .i64 x, .int .i64 y] w fun e w' => e = .returned (.int .i64 (cmpI x y)) ∧ w = w' := by
 rcases Int.lt_trichotomy x y with h | h | h
 ·have e := Ho.mk (cmpI_lt h)
  go_enter Tryz.func191, Tryz.ntmps191
  go_wp2
  go_ret
  exact ⟨by rw [e.out]; rfl, rfl⟩
 ·have e := Ho.mk (cmpI_eq h)
  subst h
  go_enter Tryz.func191, Tryz.ntmps191
  go_wp2
  go_ret
  exact ⟨by rw [e.out]; rfl, rfl⟩
 ·have e := Ho.mk (cmpI_gt h)
  go_enter Tryz.func191, Tryz.ntmps191
  go_wp2
  go_ret
  exact ⟨by rw [e.out]; rfl, rfl⟩
theorem cmp_calls (A0 A1 : Option Addr) (c0 c1 x y : Nat) (w : World) (h0 : Rd w A0 (digs x)) (h1 : Rd w A1 (digs y)) :
  Calls Tryz.prog 171 #[.slice A0 (digs x).length c0, .slice A1 (digs y).length c1] w
   fun e w' => e = .returned (.int .i64 (cmpI x y)) ∧ ∃ n, w' = w.drewN n := by
 have m0 := h0.max
 have m1 := h1.max
 by_cases hne : (digs x).length = (digs y).length
 ·have e := Ho.mk (cmp_digs x y hne)
  generalize digs x = l0 at *
  generalize digs y = l1 at *
  have hb : ((l0.length : Int) != (l1.length : Int)) = false := by rw [hne]; simp
  have HN := Ho.mk hne
  clear hne
  go_enter Tryz.func171, Tryz.ntmps171
  go_wp2
  go_loopw [5] (fun v wr => ∃ j : Int, -1 ≤ j ∧ j < l0.length ∧ v = .int .i64 j ∧ Ho (cmpTop l0 l1 (j + 1).toNat = cmpI x y) ∧ Ho (∃ k, wr = w.drewN k)) (fun v _ => (intOf v + 1).toNat)
  case atStart => exact ⟨l0.length - 1, by omega, by omega, rfl, ⟨by rw [← e.out]; congr 1; omega⟩, ⟨0, rfl⟩⟩
  case round =>
   obtain ⟨j, hj, hj1, rfl, ht, hw⟩ := hrel
   obtain ⟨kw, hw⟩ := hw.out
   subst hw
   rcases Int.lt_or_le j 0 with hz | hz
   ·obtain rfl : j = -1 := by omega
    go_wp2
    go_ret
    exact ⟨by rw [← ht.out]; rfl, kw, rfl⟩
   ·obtain ⟨m, rfl⟩ := Int.eq_ofNat_of_zero_le hz
    obtain ⟨a0, rfl, x0⟩ := h0.cell m (by omega)
    obtain ⟨a1, rfl, x1⟩ := h1.cell m (by have := HN.out; omega)
    have hm1 : (m : Int) < l1.length := by have := HN.out; omega
    by_cases hq : nth l0 m = nth l1 m
    ·have ht' : Ho (cmpTop l0 l1 m = cmpI x y) := ⟨by rw [← ht.out, show ((m : Int) + 1).toNat = m + 1 from by omega]; simp only [cmpTop]; rw [if_pos hq]⟩
     have hqb : (nth l0 m != nth l1 m) = false := by rw [hq]; simp
     clear hq ht
     go_wp2
     go_quiet (fail)
     go_wp2
     go_roundw
     case rel => exact ⟨(m : Int) - 1, by omega, by omega, rfl, ⟨by rw [← ht'.out]; congr 1; omega⟩, ⟨_, rfl⟩⟩
     case measure => simp [intOf]
    ·have ht' : Ho (cmpI (nth l0 m) (nth l1 m) = cmpI x y) := ⟨by rw [← ht.out, show ((m : Int) + 1).toNat = m + 1 from by omega]; simp only [cmpTop]; rw [if_neg hq]⟩
     have hqb : (nth l0 m != nth l1 m) = true := bne_iff_ne.mpr hq
     clear hq ht
     go_wp2
     go_quiet (fail)
     go_wp2
     go_quiet ((go_at_call 191; (with_reducible refine (compare_calls _ _ _).mono ?_); rintro e w' ⟨rfl, rfl⟩; exact ⟨rfl, _, rfl⟩))
     go_wp2
     go_ret
     exact ⟨by rw [ht'.out]; rfl, _, (World.drewN_drewN _ _ _).trans (World.drewN_drewN _ _ _)⟩
 ·have e := Ho.mk (cmp_len x y hne)
  have hb : (((digs x).length : Int) != ((digs y).length : Int)) = true := by rw [bne_iff_ne]; omega
  clear hne
  go_enter Tryz.func171, Tryz.ntmps171
  go_wp2_with (go_at_call 191; (with_reducible refine (compare_calls _ _ _).mono ?_); rintro e w' ⟨rfl, rfl⟩)
  go_ret
  exact ⟨by rw [e.out]; rfl, 0, rfl⟩
theorem sub_calls (A0 A1 : Option Addr) (c0 c1 x y : Nat) (w : World) (h0 : Rd w A0 (digs x)) (hc0 : (digs x).length ≤ c0) (h1 : Rd w A1 (digs y)) (hc1 : (digs y).length ≤ c1)
  (hx : (digs x).length ≤ 50000) (hxy : y ≤ x) :
  Calls Tryz.prog 169 #[.slice A0 (digs x).length c0, .slice A1 (digs y).length c1] w
   fun e w' => ∃ A c, e = .returned (.tuple #[.slice A (digs (x - y)).length c, .bool true]) ∧ (digs (x - y)).length ≤ c ∧ Rd w' A (digs (x - y)) ∧ Bel w w' := by
 have E := Ho.mk (sub_digs x y hxy)
 have hlt : decide (cmpI x y < 0) = false := by
  rcases Nat.lt_or_eq_of_le hxy with h | h
  ·rw [cmpI_gt (by omega)]; rfl
  ·rw [cmpI_eq (by omega)]; rfl
 have hcmp := fun W (g0 : Rd W A0 (digs x)) (g1 : Rd W A1 (digs y)) => cmp_calls A0 A1 c0 c1 x y W g0 g1
 have HC := Ho.mk hcmp
 have F0 := Ho.mk (digs_can x).1
 have F1 := Ho.mk (digs_can y).1
 clear hcmp hxy
 generalize digs x = l0 at *
 generalize digs y = l1 at *
 go_enter Tryz.func169, Tryz.ntmps169
 go_wp2_with fail
 (with_reducible refine (HC.out _ h0 h1).mono ?_); rintro e w1 ⟨rfl, hd⟩
 have hb1 : Bel w w1 := by obtain ⟨n, rfl⟩ := hd; exact (Bel.refl w).drewN n
 clear hd
 have b0 := Blk.new w1 [.int .i64 0] 246
 have hB := (hb1.alloc (.cells #[.int .i64 0] 246))
 have r0 := ((h0.bel hb1).rdB).bel ((Bel.refl w1).alloc (.cells #[.int .i64 0] 246))
 have r1 := ((h1.bel hb1).rdB).bel ((Bel.refl w1).alloc (.cells #[.int .i64 0] 246))
 go_wp2_with (go_at_call 189; (with_reducible refine (alongSub_calls A0 A1 c0 c1 l0 l1 l0.length w1.heap.size _ rfl _ r0 hc0 r1 hc1 (by omega) F0.out.nth F1.out.nth b0).mono ?_); rintro e w' ⟨A, c, rfl, hl, hr, hb⟩; rw [E.out] at hl hr)
 go_ret2
 rw [← E.out]
 exact ⟨A, c, rfl, by rw [E.out]; exact hl, by rw [E.out]; exact hr, ⟨hB.out.trans (hb.mono hb1.size)⟩⟩
theorem subNo_calls (A0 A1 : Option Addr) (c0 c1 x y : Nat) (w : World) (h0 : Rd w A0 (digs x)) (h1 : Rd w A1 (digs y)) (hxy : x < y) :
  Calls Tryz.prog 169 #[.slice A0 (digs x).length c0, .slice A1 (digs y).length c1] w
   fun e w' => e = .returned (.tuple #[.slice none 0 0, .bool false]) ∧ Bel w w' := by
 have hlt : decide (cmpI x y < 0) = true := by rw [cmpI_lt (by omega)]; rfl
 have m0 := h0.max
 have m1 := h1.max
 go_enter Tryz.func169, Tryz.ntmps169
 go_wp2_with fail
 (with_reducible refine (cmp_calls A0 A1 c0 c1 x y _ h0 h1).mono ?_); rintro e w1 ⟨rfl, hd⟩
 have hb1 : Bel w w1 := by obtain ⟨n, rfl⟩ := hd; exact (Bel.refl w).drewN n
 clear hd
 go_wp2
 go_ret2
 exact ⟨rfl, hb1⟩
end N5
namespace N6
open Go.RowKit Go.Proofs.YtalbgklfhabnkaaGreatDoor Ow Pl N1 N2 N3 N4 N5
theorem ret_int {k : IntKind} {a b : Int} (h : a = b) : Ending.returned (.int k a) = .returned (.int k b) := by rw [h]
def tab : ByteArray := ⟨#[0, 1, 2, 2, 3, 3, 3, 3, 4, 4, 4, 4, 4, 4, 4, 4, 5, 5, 5, 5, 5, 5, 5, 5, 5, 5, 5, 5, 5, 5, 5, 5, 6, 6, 6, 6, 6, 6, 6, 6, 6, 6, 6, 6, 6, 6, 6, 6, 6, 6, 6, 6, 6, 6, 6, 6, 6, 6, 6, 6, 6, 6, 6, 6, 7, 7, 7, 7, 7, 7, 7, 7, 7, 7, 7, 7, 7, 7, 7, 7, 7, 7, 7, 7, 7, 7, 7, 7, 7, 7, 7, 7, 7, 7, 7, 7, 7, 7, 7, 7, 7, 7, 7, 7, 7, 7, 7, 7, 7, 7, 7, 7, 7, 7, 7, 7, 7, 7, 7, 7, 7, 7, 7, 7, 7, 7, 7, 7, 8, 8, 8, 8, 8, 8, 8, 8, 8, 8, 8, 8, 8, 8, 8, 8, 8, 8, 8, 8, 8, 8, 8, 8, 8, 8, 8, 8, 8, 8, 8, 8, 8, 8, 8, 8, 8, 8, 8, 8, 8, 8, 8, 8, 8, 8, 8, 8, 8, 8, 8, 8, 8, 8, 8, 8, 8, 8, 8, 8, 8, 8, 8, 8, 8, 8, 8, 8, 8, 8, 8, 8, 8, 8, 8, 8, 8, 8, 8, 8, 8, 8, 8, 8, 8, 8, 8, 8, 8, 8, 8, 8, 8, 8, 8, 8, 8, 8, 8, 8, 8, 8, 8, 8, 8, 8, 8, 8, 8, 8, 8, 8, 8, 8, 8, 8, 8, 8, 8, 8, 8, 8, 8, 8, 8, 8, 8, 8]⟩
theorem tab_all : ∀ n : Fin 256, (tab.data[n.1]!).toNat = blen n.1 := by decide +kernel
theorem tab_at (n : Nat) (h : n < tab.size) : (tab[n]'h).toNat = blen n := by
 have hs : tab.data.size = 256 := by decide +kernel
 have h' : n < 256 := by rw [← hs]; exact h
 have := tab_all ⟨n, h'⟩
 rw [getElem!_pos tab.data n (by omega)] at this
 exact this
theorem tab_wrap (n : Nat) (h : n < tab.size) (hn : n < 256) (c : Int) (h0 : 0 ≤ c) (h1 : c ≤ 100) : wrap64 (c + wrap64 ((tab[n]'h).toNat : Int)) = c + blen n := by
 rw [tab_at]
 have : blen n ≤ 8 := blen_le.2 (by omega)
 unfold wrap64; omega
theorem tab_wrap0 (n : Nat) (h : n < tab.size) (hn : n < 256) : wrap64 (wrap64 ((tab[n]'h).toNat : Int)) = blen n := by
 have := tab_wrap n h hn 0 (by omega) (by omega)
 rw [Int.zero_add, Int.zero_add] at this; exact this
theorem blen_div (x k : Nat) (h : 2 ^ k ≤ x) : blen x = k + blen (x / 2 ^ k) := by
 have hp : 0 < 2 ^ k := Nat.two_pow_pos k
 have e : x = x / 2 ^ k * 2 ^ k + x % 2 ^ k := by rw [Nat.mul_comm]; exact (Nat.div_add_mod x (2 ^ k)).symm
 have h0 : x / 2 ^ k ≠ 0 := by have := Nat.div_pos h hp; omega
 have := blen_shift h0 (Nat.mod_lt x hp)
 rw [← e] at this; omega
theorem len64_calls (x : Int) (w : World) (h0 : 0 ≤ x) (h1 : x < 16777216) : Calls Tryz.prog 181 #[.int .u64 x] w fun e w' => e = .returned (.int .i64 (blen x.toNat)) ∧ w = w' := by
 rcases Int.lt_or_le x 256 with h | h
 ·clear h1
  go_enter Tryz.func181, Tryz.ntmps181
  go_wp2
  go_ret
  exact ⟨ret_int (tab_wrap0 x.toNat _ (by omega)), rfl⟩
 rcases Int.lt_or_le x 65536 with h' | h'
 ·have hq0 : 0 ≤ x / 256 := by omega
  have hq1 : x / 256 < 256 := by omega
  go_enter Tryz.func181, Tryz.ntmps181
  go_wp2
  go_ret
  refine ⟨ret_int ((tab_wrap (x / 256).toNat _ (by omega) 8 (by omega) (by omega)).trans ?_), rfl⟩
  rw [blen_div x.toNat 8 (by omega), show (x / 256).toNat = x.toNat / 2 ^ 8 from by omega]; omega
 ·have hq0 : 0 ≤ x / 65536 := by omega
  have hq1 : x / 65536 < 256 := by omega
  go_enter Tryz.func181, Tryz.ntmps181
  go_wp2
  go_ret
  refine ⟨ret_int ((tab_wrap (x / 65536).toNat _ (by omega) 16 (by omega) (by omega)).trans ?_), rfl⟩
  rw [blen_div x.toNat 16 (by omega), show (x / 65536).toNat = x.toNat / 2 ^ 16 from by omega]; omega
theorem len_calls (x : Int) (w : World) (h0 : 0 ≤ x) (h1 : x < 16777216) : Calls Tryz.prog 162 #[.int .u64 x] w fun e w' => e = .returned (.int .i64 (blen x.toNat)) ∧ w = w' := by
 go_enter Tryz.func162, Tryz.ntmps162
 go_wp2_with (go_at_call 181; (with_reducible refine (len64_calls _ _ h0 h1).mono ?_); rintro e w' ⟨rfl, rfl⟩)
 go_ret
 exact ⟨rfl, rfl⟩
theorem blen_digs (x : Nat) (h : x ≠ 0) : (blen x : Int) = 24 * ((digs x).length - 1 : Int) + blen (nth (digs x) ((digs x).length - 1)).toNat := by
 have hc := digs_can x
 have hv := digs_val x
 have hne : digs x ≠ [] := fun e => h (digs_nil.1 e)
 generalize digs x = l at *
 obtain ⟨n, hn⟩ : ∃ n, l.length = n + 1 := ⟨l.length - 1, by have := List.length_pos_iff.2 hne; omega⟩
 have e1 : l = l.take n ++ [nth l n] := by
  conv => lhs; rw [← List.take_length (l := l), hn, List.take_succ_eq_append_getElem (by omega)]
  rw [nth_lt (by omega)]
 have hv2 : val l = val (l.take n) + 16777216 ^ n * nth l n := by
  conv => lhs; rw [e1]
  rw [val_append, List.length_take, Nat.min_eq_left (by omega)]; simp [val]
 have h1 := val_nonneg (hc.1.take n)
 have h2 := val_lt (hc.1.take n)
 rw [List.length_take, Nat.min_eq_left (by omega)] at h2
 have h3 := hc.1.nth n
 have h4 : nth l n ≠ 0 := fun e => hc.2 (by rw [e1, e]; simp)
 rw [hn, show n + 1 - 1 = n from rfl]
 obtain ⟨t, ht⟩ : ∃ t : Nat, nth l n = t := ⟨(nth l n).toNat, by omega⟩
 obtain ⟨r, hr⟩ : ∃ r : Nat, val (l.take n) = r := ⟨(val (l.take n)).toNat, by omega⟩
 rw [ht] at hv2 h4 ⊢
 rw [hr] at hv2 h2
 have hp : (16777216 : Nat) ^ n = 2 ^ (24 * n) := by rw [Nat.pow_mul]
 rw [← pow_cast, hp] at hv2 h2
 have hx : x = t * 2 ^ (24 * n) + r := by
  rw [hv2] at hv
  have : ((t * 2 ^ (24 * n) + r : Nat) : Int) = x := by rw [← hv]; push_cast; rw [Int.mul_comm]; omega
  omega
 rw [hx, blen_shift (by omega) (by omega)]
 simp only [Int.toNat_natCast]
 omega
theorem natLen_calls (A : Option Addr) (c x : Nat) (w : World) (h : Rd w A (digs x)) :
  Calls Tryz.prog 154 #[.slice A (digs x).length c] w fun e w' => e = .returned (.int .i64 (blen x)) ∧ w = w' := by
 have hm := h.max
 by_cases h0 : x = 0
 ·subst h0
  rw [digs_zero]
  go_enter Tryz.func154, Tryz.ntmps154
  go_wp2
  go_ret
  exact ⟨rfl, rfl⟩
 ·have e := Ho.mk (blen_digs x h0)
  have F := (digs_can x).1.nth ((digs x).length - 1)
  have hne : digs x ≠ [] := fun e => h0 (digs_nil.1 e)
  clear h0
  generalize digs x = l at *
  obtain ⟨n, hn⟩ : ∃ n, l.length = n + 1 := ⟨l.length - 1, by have := List.length_pos_iff.2 hne; omega⟩
  obtain ⟨ad, rfl, hx⟩ := h.cell n (by omega)
  rw [hn] at F hm ⊢
  have E := e.out
  rw [hn, show n + 1 - 1 = n from rfl] at E
  have EE := Ho.mk E
  rw [show n + 1 - 1 = n from rfl] at F
  obtain ⟨F0, F1⟩ := F
  clear hne E e hn
  go_enter Tryz.func154, Tryz.ntmps154
  go_wp2_with fail
  (with_reducible refine (len_calls _ _ F0 F1).mono ?_); rintro e w' ⟨rfl, rfl⟩
  have hb : blen (nth l n).toNat ≤ 24 := blen_le.2 (by omega)
  generalize blen (nth l n).toNat = b at *
  go_wp2
  go_ret
  exact ⟨ret_int (by have := EE.out; omega), rfl⟩
end N6
namespace R2
open Go.RowKit Go.Proofs.YtalbgklfhabnkaaGreatDoor Ow Pl N2
def sameB (a b : List Int) : Bool := decide (a = b)
theorem sameB_self (a : List Int) : sameB a a = true := by simp [sameB]
theorem same_calls (A0 A1 : Option Addr) (c0 c1 : Nat) (a b : List Int) (w : World) (h0 : Rd w A0 a) (h1 : Rd w A1 b) :
  Calls Tryz.prog 56 #[.slice A0 a.length c0, .slice A1 b.length c1] w fun e w' => e = .returned (.bool (sameB a b)) ∧ ∃ n, w' = w.drewN n := by
 have m0 := h0.max
 have m1 := h1.max
 by_cases hne : a.length = b.length
 ·have hb : ((a.length : Int) != (b.length : Int)) = false := by rw [hne]; simp
  have HN := Ho.mk hne
  clear hne
  go_enter Tryz.func56, Tryz.ntmps56
  go_wp2
  go_loopw [5] (fun v wr => ∃ i : Nat, i ≤ a.length ∧ v = .int .i64 i ∧ Ho (∀ j, j < i → nth a j = nth b j) ∧ Ho (∃ k, wr = w.drewN k)) (fun v _ => a.length - (intOf v).toNat)
  case atStart => exact ⟨0, Nat.zero_le _, rfl, ⟨fun j hj => by omega⟩, ⟨0, rfl⟩⟩
  case round =>
   obtain ⟨i, hi, rfl, he, hw⟩ := hrel
   obtain ⟨kw, hw⟩ := hw.out
   subst hw
   rcases Nat.lt_or_ge i a.length with hlt | hge
   ·obtain ⟨a0, rfl, x0⟩ := h0.cell i hlt
    obtain ⟨a1, rfl, x1⟩ := h1.cell i (by have := HN.out; omega)
    have hm1 : (i : Int) < b.length := by have := HN.out; omega
    by_cases hq : nth a i = nth b i
    ·have he' : Ho (∀ j, j < i + 1 → nth a j = nth b j) := ⟨fun j hj => by
      rcases Nat.lt_or_eq_of_le (Nat.lt_succ_iff.1 hj) with h | h
      ·exact he.out j h
      ·rw [h]; exact hq⟩
     have hqb : (nth a i != nth b i) = false := by rw [hq]; simp
     clear hq he
     go_wp2
     go_quiet (fail)
     go_wp2
     go_roundw
     case rel => exact ⟨i + 1, by omega, by simp, he', ⟨_, rfl⟩⟩
     case measure => simp [intOf]; omega
    ·have hs : Ho (sameB a b = false) := ⟨by simp only [sameB]; exact decide_eq_false (fun e => hq (by rw [e]))⟩
     have hqb : (nth a i != nth b i) = true := bne_iff_ne.mpr hq
     clear hq he
     go_wp2
     go_quiet (fail)
     go_wp2
     go_ret
     exact ⟨by rw [hs.out]; rfl, _, (World.drewN_drewN _ _ _)⟩
   ·obtain rfl : i = a.length := by omega
    have hs : Ho (sameB a b = true) := ⟨by simp only [sameB]; exact decide_eq_true (nth_ext HN.out he.out)⟩
    clear he
    go_wp2
    go_ret
    exact ⟨by rw [hs.out]; rfl, _, rfl⟩
 ·have hs : Ho (sameB a b = false) := ⟨by simp only [sameB]; exact decide_eq_false (fun e => hne (by rw [e]))⟩
  have hb : ((a.length : Int) != (b.length : Int)) = true := by rw [bne_iff_ne]; omega
  clear hne
  go_enter Tryz.func56, Tryz.ntmps56
  go_wp2
  go_ret
  exact ⟨by rw [hs.out]; rfl, 0, rfl⟩
theorem digs_step {m : Nat} (h : 0 < m) (d : List Int) (N : Nat) (e : d ++ digs m = digs N) : (d ++ [((m : Int) % 16777216)]) ++ digs (m / 16777216) = digs N := by
 rw [← e, List.append_assoc, digs_pos (show m ≠ 0 by omega)]; rfl
theorem digs_len_i64 {N : Nat} (h : N < 9223372036854775808) : (digs N).length ≤ 3 := digs_len_le.2 (Nat.lt_of_lt_of_le h (by decide))
theorem ofLoop {d : List Int} {m N : Nat} (e : d ++ digs m = digs N) (h : N < 9223372036854775808) : d.length ≤ 3 ∧ m ≤ N := by
 have h1 := digs_len_i64 h
 rw [← e, List.length_append] at h1
 refine ⟨by omega, ?_⟩
 have h2 := congrArg val e
 rw [val_append, digs_val, digs_val] at h2
 have hl : Lims d := fun x hx => (digs_can N).1 x (by rw [← e]; exact List.mem_append_left _ hx)
 have h3 := val_nonneg hl
 have h4 : (1 : Int) ≤ 16777216 ^ d.length := Int.le_of_lt_add_one (by have := Int.pow_pos (n := 16777216) (m := d.length) (by decide); omega)
 have h5 : (m : Int) ≤ 16777216 ^ d.length * m := by
  have := Int.mul_le_mul_of_nonneg_right h4 (show (0 : Int) ≤ m by omega); omega
 omega
theorem natOf_calls (n : Int) (N : Nat) (w : World) (hN : N = n.toNat) (h1 : n ≤ 9223372036854775807) :
  Calls Tryz.prog 170 #[.int .i64 n] w fun e w' => ∃ A c, e = .returned (.slice A (digs N).length c) ∧ (digs N).length ≤ c ∧ Rd w' A (digs N) ∧ Bel w w' := by
 have HN := Ho.mk hN
 clear hN
 go_enter Tryz.func170, Tryz.ntmps170
 go_wp2
 go_loopw [0, 3] (fun v0 v3 wr => ∃ (x : Int) (d : List Int), x ≤ 9223372036854775807 ∧ v0 = .int .i64 x ∧ Ho (d ++ digs x.toNat = digs N) ∧ Ho (OwnI wr w.heap.size 3 1 v3 d.length (ints d)) ∧ Ho (Bel w wr)) (fun v0 _ _ => (intOf v0).toNat)
 case atStart => exact ⟨n, [], h1, rfl, ⟨by rw [HN.out]; rfl⟩, ⟨OwnI.nil _ _ _ _⟩, ⟨Bel.refl _⟩⟩
 case round =>
  obtain ⟨x, d, hx, rfl, he, ho, hb⟩ := hrel
  rcases Int.lt_or_le 0 x with h0 | h0
  ·obtain ⟨m, rfl⟩ := Int.eq_ofNat_of_zero_le (Int.le_of_lt h0)
   have hlen := ofLoop he.out (by have := HN.out; omega)
   have hd3 := hlen.1
   rw [Int.toNat_natCast] at he
   clear hlen
   go_wp2_with (at_builtin; (refine wpList_app _ rfl (.tmp 8) (.tmp 11) 35 rfl w.heap.size 3 (.int .i64 0) 8 Tryz.underlying35 info3 rfl _ d.length (ints d) _ rfl ho.out rfl rfl (by omega) (by omega) hb.out.size ?_); intro v w1 hv hb1)
   rw [i64_mask24] at hv
   go_roundw
   case rel =>
    refine ⟨(m : Int) / 16777216, d ++ [(m : Int) % 16777216], by omega, rfl, ⟨?_⟩, ⟨?_⟩, ⟨⟨hb.out.out.trans hb1⟩⟩⟩
    ·rw [show ((m : Int) / 16777216).toNat = m / 16777216 from by omega]
     exact digs_step (by omega) d N he.out
    ·rw [List.length_append, List.length_singleton]
     have e : ints (d ++ [(m : Int) % 16777216]) = ints d ++ [.int .i64 ((m : Int) % 16777216)] := by simp [ints]
     rw [e]; exact hv
   case measure => simp [intOf]; omega
  ·have e : Ho (d = digs N) := ⟨by have := he.out; rwa [show x.toNat = 0 from by omega, digs_zero, List.append_nil] at this⟩
   obtain ⟨A, c, rfl, hc, hr⟩ := ho.out.rd (by have := (ofLoop he.out (by have := HN.out; omega)).1; omega)
   have HR := Ho.mk hr
   clear hr he
   go_wp2
   go_ret
   rw [← e.out]
   exact ⟨A, c, rfl, hc, HR.out, hb.out⟩
end R2
namespace Ow
open Go.RowKit
theorem Blk.own {w : World} {b e n : Nat} {cs : List Value} (h : Blk w b e cs) (hn : cs.length = n) {B : Nat} (hB : B ≤ b) (hm : n ≤ 1000000000000) : OwnI w B e 1 (.slice (some ⟨b, 0, none⟩) n n) n cs :=
 ⟨by omega, .inr ⟨b, n, cs.toArray, rfl, hB, h.out, Nat.le_refl _, by simp only [maxLen]; omega, by simp [hn], by simp [← hn]⟩⟩
end Ow
namespace Dp
open Go Go.RowKit Ow Pl
def tz (x : Nat) : Nat := if h : x = 0 then 0 else if x % 2 = 1 then 0 else tz (x / 2) + 1
termination_by x
decreasing_by omega
theorem tz_odd {x : Nat} (h : x % 2 = 1) : tz x = 0 := by unfold tz; rw [dif_neg (by omega), if_pos h]
theorem tz_even {x : Nat} (h0 : x ≠ 0) (h : x % 2 = 0) : tz x = tz (x / 2) + 1 := by rw [tz]; rw [dif_neg h0, if_neg (by omega)]
def odd (x : Nat) : Nat := x / 2 ^ tz x
theorem odd_zero : odd 0 = 0 := by unfold odd; rw [Nat.zero_div]
theorem odd_mul (x : Nat) : odd x * 2 ^ tz x = x ∧ (x ≠ 0 → odd x % 2 = 1) := by
 induction x using Nat.strongRecOn with
 | _ x ih =>
  by_cases h0 : x = 0
  ·subst h0; rw [odd_zero]; simp
  ·by_cases h : x % 2 = 1
   ·unfold odd; rw [tz_odd h]; simp [h]
   ·have h2 : x % 2 = 0 := by omega
    obtain ⟨a, b⟩ := ih (x / 2) (by omega)
    have e : odd x = odd (x / 2) := by
     unfold odd; rw [tz_even h0 h2, Nat.pow_succ, Nat.mul_comm, ← Nat.div_div_eq_div_mul]
    refine ⟨?_, fun _ => by rw [e]; exact b (by omega)⟩
    rw [e, tz_even h0 h2, Nat.pow_succ, ← Nat.mul_assoc, a]; omega
theorem odd_eq (x : Nat) : odd x * 2 ^ tz x = x := (odd_mul x).1
theorem odd_odd {x : Nat} (h : x ≠ 0) : odd x % 2 = 1 := (odd_mul x).2 h
theorem odd_pos {x : Nat} (h : x ≠ 0) : odd x ≠ 0 := fun e => by have := odd_odd h; omega
theorem tz_shift {x : Nat} (k : Nat) (h : x ≠ 0) : tz (x * 2 ^ k) = tz x + k := by
 induction k with
 | zero => simp
 | succ k ih =>
  have hp : 0 < x * 2 ^ k := Nat.mul_pos (by omega) (Nat.two_pow_pos k)
  rw [Nat.pow_succ, ← Nat.mul_assoc, tz_even (by omega) (by omega), Nat.mul_div_cancel _ (by decide), ih]; omega
theorem odd_shift {x : Nat} (k : Nat) : odd (x * 2 ^ k) = odd x := by
 by_cases h : x = 0
 ·subst h; simp
 ·unfold odd
  rw [tz_shift k h, Nat.add_comm, Nat.pow_add, ← Nat.div_div_eq_div_mul, Nat.mul_div_cancel _ (Nat.two_pow_pos k)]
theorem odd_of {m k : Nat} (h : m % 2 = 1) : odd (m * 2 ^ k) = m ∧ tz (m * 2 ^ k) = k := by
 have h0 : m ≠ 0 := by omega
 rw [odd_shift, tz_shift k h0, tz_odd h]
 refine ⟨?_, by omega⟩
 unfold odd; rw [tz_odd h]; simp
theorem odd_self {m : Nat} (h : m % 2 = 1) : odd m = m := by have := (odd_of (k := 0) h).1; simpa using this
def K : Nat := 100000
def dneg (v : Int) : Bool := decide (v < 0)
def dm (v : Int) : Nat := odd v.natAbs
def de (v : Int) : Int := if v = 0 then 0 else (tz v.natAbs : Int) - K
def sc (neg : Bool) (x : Nat) (e : Int) : Int := (if neg then -1 else 1) * ((x * 2 ^ (e + K).toNat : Nat) : Int)
theorem sc_zero (neg : Bool) (e : Int) : sc neg 0 e = 0 := by unfold sc; simp
theorem sc_abs (neg : Bool) (x : Nat) (e : Int) : (sc neg x e).natAbs = x * 2 ^ (e + K).toNat := by
 unfold sc; cases neg <;> simp [Int.natAbs_mul]
theorem sc_neg {neg : Bool} {x : Nat} {e : Int} (h : x ≠ 0) : dneg (sc neg x e) = neg := by
 have hp : 0 < x * 2 ^ (e + K).toNat := Nat.mul_pos (by omega) (Nat.two_pow_pos _)
 unfold dneg sc
 generalize x * 2 ^ (e + K).toNat = y at hp
 cases neg
 ·exact decide_eq_false (by rw [if_neg (by decide)]; omega)
 ·exact decide_eq_true (by rw [if_pos rfl]; omega)
theorem sc_ne {neg : Bool} {x : Nat} {e : Int} (h : x ≠ 0) : sc neg x e ≠ 0 := fun c => by
 have hp : 0 < x * 2 ^ (e + K).toNat := Nat.mul_pos (by omega) (Nat.two_pow_pos _)
 have := sc_abs neg x e
 rw [c] at this; simp only [Int.natAbs_zero] at this; omega
theorem sc_m (neg : Bool) (x : Nat) (e : Int) : dm (sc neg x e) = odd x := by
 unfold dm; rw [sc_abs, odd_shift]
theorem sc_e {neg : Bool} {x : Nat} {e : Int} (h : x ≠ 0) (he : -(K : Int) ≤ e) : de (sc neg x e) = e + tz x := by
 unfold de; rw [if_neg (sc_ne h), sc_abs, tz_shift _ h]; omega
theorem sc_self (v : Int) : sc (dneg v) (dm v) (de v) = v := by
 by_cases h : v = 0
 ·subst h; show sc _ (odd 0) _ = 0; rw [odd_zero, sc_zero]
 ·have e : (de v + K).toNat = tz v.natAbs := by unfold de; rw [if_neg h]; omega
  unfold sc
  rw [e]
  show _ * ((odd v.natAbs * 2 ^ tz v.natAbs : Nat) : Int) = v
  rw [odd_eq]
  unfold dneg
  by_cases hn : v < 0
  ·rw [decide_eq_true hn, if_pos rfl]; omega
  ·rw [decide_eq_false hn, if_neg (by decide)]; omega
theorem d_inj {u v : Int} (h1 : dneg u = dneg v) (h2 : dm u = dm v) (h3 : de u = de v) : u = v := by
 rw [← sc_self u, ← sc_self v, h1, h2, h3]
theorem dm_zero {v : Int} : dm v = 0 ↔ v = 0 := by
 constructor
 ·intro h
  have := odd_eq v.natAbs
  unfold dm at h
  rw [h, Nat.zero_mul] at this; omega
 ·intro h; subst h; exact odd_zero
theorem de_zero : de 0 = 0 := rfl
theorem dneg_zero : dneg 0 = false := rfl
theorem dm_odd {v : Int} (h : v ≠ 0) : dm v % 2 = 1 := odd_odd (by omega)
theorem de_ge {v : Int} : -(K : Int) ≤ de v := by
 unfold de; split
 ·unfold K; omega
 ·omega
theorem sc_down (neg : Bool) (x k : Nat) (e : Int) (h : -(K : Int) ≤ e) : sc neg (x * 2 ^ k) e = sc neg x (e + k) := by
 unfold sc
 rw [show (e + k + K).toNat = k + (e + K).toNat from by omega, Nat.pow_add, Nat.mul_assoc]
theorem sc_odd (neg : Bool) (x : Nat) (e : Int) (h : -(K : Int) ≤ e) : sc neg (odd x) (e + tz x) = sc neg x e := by
 rw [← sc_down _ _ _ _ h, odd_eq]
theorem sc_add (neg : Bool) (x y : Nat) (e : Int) : sc neg (x + y) e = sc neg x e + sc neg y e := by
 unfold sc; rw [Nat.add_mul, Int.natCast_add, Int.mul_add]
theorem sc_sub (neg : Bool) (x y : Nat) (e : Int) (h : y ≤ x) : sc neg (x - y) e = sc neg x e + sc (!neg) y e := by
 unfold sc
 rw [Nat.sub_mul, Int.natCast_sub (Nat.mul_le_mul_right _ h), Int.mul_sub]
 cases neg <;> simp <;> omega
theorem sc_flip (neg : Bool) (x : Nat) (e : Int) : sc (!neg) x e = - sc neg x e := by
 unfold sc; cases neg <;> simp
theorem sc_mul (a b : Bool) (x y : Nat) (e f : Int) (he : -(K : Int) ≤ e) (hf : -(K : Int) ≤ f) (h : -(K : Int) ≤ e + f) :
  sc (a != b) (x * y) (e + f) * 2 ^ K = sc a x e * sc b y f := by
 have e1 : x * y * 2 ^ (e + f + K).toNat * 2 ^ K = (x * 2 ^ (e + K).toNat) * (y * 2 ^ (f + K).toNat) := by
  rw [Nat.mul_assoc (x * y), ← Nat.pow_add, show (e + f + K).toNat + K = (e + K).toNat + (f + K).toNat from by omega, Nat.pow_add]
  ac_rfl
 have e2 : ((x * y * 2 ^ (e + f + K).toNat : Nat) : Int) * 2 ^ K = ((x * 2 ^ (e + K).toNat : Nat) : Int) * ((y * 2 ^ (f + K).toNat : Nat) : Int) := by
  rw [← Int.natCast_mul (x * 2 ^ (e + K).toNat), ← e1, Int.natCast_mul _ (2 ^ K), Int.natCast_pow]; rfl
 unfold sc
 generalize ((x * y * 2 ^ (e + f + K).toNat : Nat) : Int) = p at e2 ⊢
 generalize ((x * 2 ^ (e + K).toNat : Nat) : Int) = q at e2 ⊢
 generalize ((y * 2 ^ (f + K).toNat : Nat) : Int) = r at e2 ⊢
 cases a <;> cases b <;> simp [e2, Int.neg_mul, Int.mul_neg]
theorem sc_shift (neg : Bool) (x : Nat) (e : Int) (k : Nat) (h : -(K : Int) ≤ e) : sc neg x (e + k) = sc neg x e * 2 ^ k := by
 unfold sc
 rw [show (e + k + K).toNat = (e + K).toNat + k from by omega, Nat.pow_add, ← Nat.mul_assoc, Int.natCast_mul _ (2 ^ k), Int.natCast_pow, Int.mul_assoc]; rfl
structure Wd (v : Int) (L U : Nat) : Prop where
 low : v = 0 ∨ -(L : Int) ≤ de v
 up : v.natAbs < 2 ^ (K + U)
theorem Wd.zero (L U : Nat) : Wd 0 L U := ⟨.inl rfl, Nat.two_pow_pos _⟩
theorem Wd.mono {v : Int} {L U L' U' : Nat} (h : Wd v L U) (h1 : L ≤ L') (h2 : U ≤ U') : Wd v L' U' :=
 ⟨h.low.imp id (by omega), Nat.lt_of_lt_of_le h.up (Nat.pow_le_pow_right (by decide) (by omega))⟩
theorem Wd.e_le {v : Int} {L U : Nat} (h : Wd v L U) : de v ≤ U := by
 by_cases h0 : v = 0
 ·subst h0; rw [de_zero]; omega
 ·unfold de; rw [if_neg h0]
  have e := odd_eq v.natAbs
  have h1 : 2 ^ tz v.natAbs ≤ v.natAbs := by
   have hp := odd_pos (x := v.natAbs) (by omega)
   have := Nat.mul_le_mul_right (2 ^ tz v.natAbs) (show 1 ≤ odd v.natAbs by omega)
   omega
  have h2 := Nat.lt_of_le_of_lt h1 h.up
  have h3 := (Nat.pow_lt_pow_iff_right (by decide : 1 < 2)).1 h2
  omega
theorem Wd.e_ge {v : Int} {L U : Nat} (h : Wd v L U) : -(L : Int) ≤ de v := by
 rcases h.low with h0 | h0
 ·subst h0; rw [de_zero]; omega
 ·exact h0
theorem Wd.m_lt {v : Int} {L U : Nat} (h : Wd v L U) (hL : L ≤ K) : dm v < 2 ^ (L + U) := by
 by_cases h0 : v = 0
 ·subst h0; show odd 0 < _; rw [odd_zero]; exact Nat.two_pow_pos _
 ·have e := odd_eq v.natAbs
  have h1 := h.e_ge
  unfold de at h1; rw [if_neg h0] at h1
  have h2 : 2 ^ (K - L) ≤ 2 ^ tz v.natAbs := Nat.pow_le_pow_right (by decide) (by omega)
  have h3 : dm v * 2 ^ (K - L) ≤ v.natAbs := by
   have := Nat.mul_le_mul_left (odd v.natAbs) h2
   rw [e] at this; exact this
  have h4 := Nat.lt_of_le_of_lt h3 h.up
  rw [show K + U = (L + U) + (K - L) from by omega, Nat.pow_add] at h4
  exact Nat.lt_of_mul_lt_mul_right h4
theorem Wd.neg {v : Int} {L U : Nat} (h : Wd v L U) : Wd (-v) L U := by
 refine ⟨?_, by rw [Int.natAbs_neg]; exact h.up⟩
 rcases h.low with h0 | h0
 ·exact .inl (by omega)
 ·by_cases hv : v = 0
  ·exact .inl (by omega)
  ·right; unfold de at h0 ⊢; rw [if_neg hv] at h0; rw [if_neg (by omega), Int.natAbs_neg]; exact h0
end Dp
namespace Dp
open Go Go.RowKit Ow Pl
theorem tz_ge {x y j : Nat} (h : x = y * 2 ^ j) (h0 : x ≠ 0) : j ≤ tz x := by
 subst h
 rw [tz_shift _ (fun e => h0 (by rw [e, Nat.zero_mul]))]; omega
theorem Wd.dvd {v : Int} {L U : Nat} (h : Wd v L U) (hL : L ≤ K) : ∃ y : Int, v = y * 2 ^ (K - L) := by
 by_cases h0 : v = 0
 ·exact ⟨0, by rw [h0, Int.zero_mul]⟩
 ·have h1 := h.e_ge
  unfold de at h1; rw [if_neg h0] at h1
  obtain ⟨d, hd⟩ : ∃ d, tz v.natAbs = (K - L) + d := ⟨tz v.natAbs - (K - L), by omega⟩
  have e := odd_eq v.natAbs
  rw [hd, Nat.add_comm, Nat.pow_add, ← Nat.mul_assoc] at e
  generalize odd v.natAbs * 2 ^ d = q at e
  have e' : (q : Int) * 2 ^ (K - L) = (v.natAbs : Int) := by
   rw [← e, Int.natCast_mul, Int.natCast_pow]; rfl
  by_cases hn : v < 0
  ·exact ⟨-q, by rw [Int.neg_mul, e']; omega⟩
  ·exact ⟨q, by rw [e']; omega⟩
theorem wd_of {v y : Int} {L U : Nat} (hv : v = y * 2 ^ (K - L)) (hU : v.natAbs < 2 ^ (K + U)) : Wd v L U := by
 refine ⟨?_, hU⟩
 by_cases h0 : v = 0
 ·exact .inl h0
 ·right
  have e : v.natAbs = y.natAbs * 2 ^ (K - L) := by rw [hv, Int.natAbs_mul, Int.natAbs_pow]; rfl
  have := tz_ge e (by omega)
  unfold de; rw [if_neg h0]; omega
theorem Wd.add {u v : Int} {L U L' U' : Nat} (h : Wd u L U) (k : Wd v L' U') (hL : L + L' ≤ K) : Wd (u + v) (L + L') (U + U' + 1) := by
 obtain ⟨y, hy⟩ := (h.mono (Nat.le_add_right L L') (Nat.le_refl _)).dvd hL
 obtain ⟨z, hz⟩ := (k.mono (Nat.le_add_left L' L) (Nat.le_refl _)).dvd hL
 refine wd_of (y := y + z) (by rw [Int.add_mul, ← hy, ← hz]) ?_
 have h1 := (h.mono (Nat.le_refl _) (Nat.le_add_right U U')).up
 have h2 := (k.mono (Nat.le_refl _) (Nat.le_add_left U' U)).up
 rw [show K + (U + U' + 1) = K + (U + U') + 1 from by omega, Nat.pow_succ]
 omega
theorem two_pos (k : Nat) : (0 : Int) < 2 ^ k := Int.pow_pos (by decide)
theorem Wd.mul {a b c : Int} {L U L' U' : Nat} (h : Wd a L U) (k : Wd b L' U') (hc : c * 2 ^ K = a * b) (hL : L + L' ≤ K) : Wd c (L + L') (U + U') := by
 obtain ⟨y, hy⟩ := h.dvd (by omega)
 obtain ⟨z, hz⟩ := k.dvd (by omega)
 refine wd_of (y := y * z) ?_ ?_
 ·have e : c * 2 ^ K = y * z * 2 ^ (K - (L + L')) * 2 ^ K := by
   rw [hc, hy, hz, Int.mul_assoc (y * z), ← Int.pow_add, show K - (L + L') + K = (K - L) + (K - L') from by omega, Int.pow_add]
   ac_rfl
  exact Int.eq_of_mul_eq_mul_right (Int.ne_of_gt (two_pos K)) e
 ·have e : c.natAbs * 2 ^ K = a.natAbs * b.natAbs := by
   have := congrArg Int.natAbs hc
   rw [Int.natAbs_mul, Int.natAbs_mul, Int.natAbs_pow, show (2 : Int).natAbs = 2 from rfl] at this
   exact this
  have h1 := Nat.mul_lt_mul'' h.up k.up
  rw [← e, ← Nat.pow_add, show K + U + (K + U') = (K + (U + U')) + K from by omega, Nat.pow_add] at h1
  exact Nat.lt_of_mul_lt_mul_right h1
def mulD (a b : Int) : Int := a * b / 2 ^ K
theorem mulD_eq {a b : Int} {L U L' U' : Nat} (h : Wd a L U) (k : Wd b L' U') (hL : L + L' ≤ K) : mulD a b * 2 ^ K = a * b := by
 obtain ⟨y, hy⟩ := h.dvd (by omega)
 obtain ⟨z, hz⟩ := k.dvd (by omega)
 have e : a * b = y * z * 2 ^ (K - (L + L')) * 2 ^ K := by
  rw [hy, hz, Int.mul_assoc (y * z), ← Int.pow_add, show K - (L + L') + K = (K - L) + (K - L') from by omega, Int.pow_add]
  ac_rfl
 unfold mulD
 rw [e, Int.mul_ediv_cancel _ (Int.ne_of_gt (two_pos K))]
theorem scale_inj {a b : Int} (h : a * 2 ^ K = b * 2 ^ K) : a = b := Int.eq_of_mul_eq_mul_right (Int.ne_of_gt (two_pos K)) h
theorem Wd.shl {v : Int} {L U : Nat} (h : Wd v L U) (k : Nat) (hL : L ≤ K) : Wd (v * 2 ^ k) L (U + k) := by
  obtain ⟨y, hy⟩ := h.dvd hL
  refine wd_of (y := y * 2 ^ k) (by conv => lhs; rw [hy]
                                    ac_rfl) ?_
  rw [Int.natAbs_mul, Int.natAbs_pow, ← Nat.add_assoc, Nat.pow_add]
  exact Nat.mul_lt_mul_of_pos_right h.up (Nat.two_pow_pos k)
theorem Wd.shr {v w : Int} {L U : Nat} (h : Wd v L U) {k : Nat} (hw : w * 2 ^ k = v) (hL : L + k ≤ K) : Wd w (L + k) U := by
 obtain ⟨y, hy⟩ := h.dvd (by omega)
 refine wd_of (y := y) ?_ ?_
 ·have e : w * 2 ^ k = y * 2 ^ (K - (L + k)) * 2 ^ k := by
   rw [hw, hy, Int.mul_assoc, ← Int.pow_add, show K - (L + k) + k = K - L from by omega]
  exact Int.eq_of_mul_eq_mul_right (Int.ne_of_gt (two_pos k)) e
 ·have e : w.natAbs * 2 ^ k = v.natAbs := by
   have := congrArg Int.natAbs hw
   rw [Int.natAbs_mul, Int.natAbs_pow] at this; exact this
  have h1 := h.up
  have h2 : w.natAbs * 1 ≤ w.natAbs * 2 ^ k := Nat.mul_le_mul_left _ Nat.one_le_two_pow
  omega
theorem wd_sc (neg : Bool) {x b : Nat} {e : Int} {L U : Nat} (hx : x < 2 ^ b) (he : -(L : Int) ≤ e) (hU : e + b ≤ U) (hL : L ≤ K) : Wd (sc neg x e) L U := by
 by_cases h0 : x = 0
 ·subst h0; rw [sc_zero]; exact Wd.zero _ _
 ·refine ⟨.inr ?_, ?_⟩
  ·rw [sc_e h0 (by omega)]; omega
  ·rw [sc_abs]
   have h1 : x * 2 ^ (e + K).toNat < 2 ^ b * 2 ^ (e + K).toNat := Nat.mul_lt_mul_of_pos_right hx (Nat.two_pow_pos _)
   rw [← Nat.pow_add] at h1
   exact Nat.lt_of_lt_of_le h1 (Nat.pow_le_pow_right (by decide) (by omega))
def sgn (v : Int) : Int := cmpI v 0
theorem sgn_sub (a b : Int) : sgn (a + -b) = cmpI a b := by
 unfold sgn cmpI
 by_cases h : a < b
 ·rw [if_pos (by omega), if_pos h]
 ·rw [if_neg (by omega), if_neg h]
  by_cases h2 : b < a
  ·rw [if_pos (by omega), if_pos h2]
  ·rw [if_neg (by omega), if_neg h2]
end Dp
namespace Dp
open Go Go.RowKit Ow Pl
def cutX (v : Int) (k : Nat) (up : Bool) : Nat := dm v / 2 ^ k + (if up = dneg v then 0 else 1)
def cutV (v : Int) (n : Nat) (up : Bool) : Int :=
 if blen (dm v) ≤ n then v else sc (dneg v) (cutX v (blen (dm v) - n) up) (de v + (blen (dm v) - n : Nat))
theorem cut_x {v : Int} {n k : Nat} {up : Bool} (hk : blen (dm v) = n + k) : cutX v k up ≤ 2 ^ n := by
 have h := blen_lt (dm v)
 rw [hk, Nat.pow_add] at h
 have := Nat.div_lt_of_lt_mul (show dm v < 2 ^ k * 2 ^ n by rw [Nat.mul_comm]; exact h)
 unfold cutX; split <;> omega
theorem Wd.top {v : Int} {L U : Nat} (h : Wd v L U) (h0 : v ≠ 0) : de v + blen (dm v) ≤ U := by
 have hm : dm v ≠ 0 := fun e => h0 (dm_zero.1 e)
 have h1 := blen_low hm
 have e := odd_eq v.natAbs
 have h2 : 2 ^ (blen (dm v) - 1) * 2 ^ tz v.natAbs ≤ v.natAbs := by
  have := Nat.mul_le_mul_right (2 ^ tz v.natAbs) h1
  rw [show dm v * 2 ^ tz v.natAbs = v.natAbs from e] at this; exact this
 rw [← Nat.pow_add] at h2
 have h3 := Nat.lt_of_le_of_lt h2 h.up
 have h4 := (Nat.pow_lt_pow_iff_right (by decide : 1 < 2)).1 h3
 have h5 : 1 ≤ blen (dm v) := by rw [blen_pos hm]; omega
 unfold de; rw [if_neg h0]
 omega
theorem Wd.cut {v : Int} {L U : Nat} (h : Wd v L U) (n : Nat) (up : Bool) (hL : L ≤ K) : Wd (cutV v n up) L (U + 1) := by
 unfold cutV
 split
 ·exact h.mono (Nat.le_refl _) (by omega)
 ·rename_i hn
  have hv : v ≠ 0 := fun e => hn (by subst e; show blen (odd 0) ≤ n; rw [odd_zero]; exact Nat.zero_le _)
  have hx := cut_x (v := v) (n := n) (k := blen (dm v) - n) (up := up) (by omega)
  have ht := h.top hv
  have hl := h.e_ge
  refine wd_sc _ (b := n + 1) (Nat.lt_of_le_of_lt hx (Nat.pow_lt_pow_right (by decide) (by omega))) (by omega) (by omega) hL
end Dp
namespace D1
open Go.RowKit Go.Proofs.YtalbgklfhabnkaaGreatDoor Ow Pl N2 Dp
def same3 (n0 n1 : Bool) (e0 e1 : Int) (a b : List Int) : Bool := decide (n0 = n1) && (decide (e0 = e1) && R2.sameB a b)
theorem same_calls (n0 n1 : Bool) (e0 e1 : Int) (A0 A1 : Option Addr) (c0 c1 : Nat) (a b : List Int) (w : World) (h0 : Rd w A0 a) (h1 : Rd w A1 b) :
  Calls Tryz.prog 27 #[.agg #[.bool n0, .slice A0 a.length c0, .int .i64 e0], .agg #[.bool n1, .slice A1 b.length c1, .int .i64 e1]] w
   fun e w' => e = .returned (.bool (same3 n0 n1 e0 e1 a b)) ∧ Bel w w' := by
 have HC := Ho.mk (fun (W : World) (g : Bel w W) => R2.same_calls A0 A1 c0 c1 a b W (h0.bel g) (h1.bel g))
 clear h0 h1
 by_cases hn : n0 = n1
 ·subst hn
  by_cases he : e0 = e1
  ·subst he
   have e : Ho (same3 n0 n0 e0 e0 a b = R2.sameB a b) := ⟨by simp [same3]⟩
   generalize R2.sameB a b = s at *
   go_enter Tryz.func27, Tryz.ntmps27
   go_wp2_with fail
   (with_reducible refine (HC.out _ (((Bel.refl w).alloc _).alloc _)).mono ?_); rintro e1 w1 ⟨rfl, hd⟩
   have HB : Ho (Bel w w1) := ⟨by obtain ⟨n, rfl⟩ := hd; exact (((Bel.refl w).alloc _).alloc _).drewN n⟩
   clear hd
   go_wp2_with fail
   go_ret
   exact ⟨by rw [e.out]; rfl, HB.out⟩
  ·have e : Ho (same3 n0 n0 e0 e1 a b = false) := ⟨by simp [same3, he]⟩
   have hb : (e0 == e1) = false := beq_eq_false_iff_ne.mpr he
   clear he
   go_enter Tryz.func27, Tryz.ntmps27
   go_wp2_with fail
   go_ret
   exact ⟨by rw [e.out]; rfl, ((Bel.refl w).alloc _).alloc _⟩
 ·have e : Ho (same3 n0 n1 e0 e1 a b = false) := ⟨by simp [same3, hn]⟩
  have hb : (n0 == n1) = false := beq_eq_false_iff_ne.mpr hn
  clear hn
  go_enter Tryz.func27, Tryz.ntmps27
  go_wp2_with fail
  go_ret
  exact ⟨by rw [e.out]; rfl, ((Bel.refl w).alloc _).alloc _⟩
theorem flip_parts {v : Int} (h : v ≠ 0) : dneg (-v) = !dneg v ∧ dm (-v) = dm v ∧ de (-v) = de v := by
 refine ⟨?_, by unfold dm; rw [Int.natAbs_neg], by unfold de; rw [Int.natAbs_neg, if_neg h, if_neg (by omega)]⟩
 unfold dneg
 by_cases hn : v < 0
 ·rw [decide_eq_true hn, decide_eq_false (by omega)]; rfl
 ·rw [decide_eq_false hn, decide_eq_true (by omega)]; rfl
end D1
namespace D2
open Go.RowKit Go.Proofs.YtalbgklfhabnkaaGreatDoor Ow Pl N2 Dp D1
theorem nth0 (y : Nat) : nth (digs y) 0 = ((y % 16777216 : Nat) : Int) := by
 by_cases h : y = 0
 ·subst h; rw [digs_zero]; rfl
 ·rw [digs_pos h]; rfl
theorem blen_len (x : Nat) : blen x ≤ 24 * (digs x).length := by
 refine blen_le.2 (Nat.lt_of_lt_of_le (digs_lt x) ?_)
 rw [show (16777216 : Nat) = 2 ^ 24 from rfl, ← Nat.pow_mul]
 exact Nat.le_refl _
theorem rd_far {w : World} {b : Nat} {t : TypeId} {n : Bool} {s : Value} {ad : Addr} {y : Nat} (hb : Blk w b t [.bool n, s, .int .i64 0]) (hs : ∀ z, s ≠ .int .i64 z) (h : Rd w (some ad) (digs y)) (hy : y ≠ 0) : ad.block ≠ b := by
 intro e
 have hl : 0 < (digs y).length := List.length_pos_iff.2 (fun c => hy (digs_nil.1 c))
 have hat : ∀ j, j < (digs y).length → [Value.bool n, s, .int .i64 0][ad.off + j]? = some (.int .i64 (nth (digs y) j)) := by
  intro j hj
  obtain ⟨ad', e', hc⟩ := h.cell j hj
  cases e'
  unfold World.cell? at hc
  rw [add_block, e, hb.out] at hc
  simp at hc
  have ho : (ad.add j).off = ad.off + j := by
   unfold Addr.add; split
   ·subst_vars; rfl
   ·rfl
  rw [← ho]; exact hc.2
 have h0 := hat 0 hl
 rw [Nat.add_zero] at h0
 have ho : ad.off = 2 ∧ nth (digs y) 0 = 0 := by
  match ho : ad.off, h0 with
  | 0, h0 => simp at h0
  | 1, h0 => simp at h0; exact absurd h0 (hs _)
  | 2, h0 => simp at h0; exact ⟨rfl, h0.symm⟩
  | k + 3, h0 => simp at h0
 rcases Nat.lt_or_ge 1 (digs y).length with h2 | h2
 ·have h1 := hat 1 h2
  rw [ho.1] at h1
  simp at h1
 ·have h3 := (digs_can y).2
  obtain ⟨z, hz⟩ := List.length_eq_one_iff.1 (show (digs y).length = 1 by omega)
  rw [hz] at h3 ho
  exact h3 (by simp; exact ho.2)
theorem rd_set {w : World} {A : Option Addr} {l : List Int} (h : Rd w A l) {p : Addr} (hp : ∀ ad, A = some ad → ad.block ≠ p.block) (v : Value) : Rd (w.setCell p v) A l :=
 ⟨h.max, fun j hj => by
  obtain ⟨ad, e, hc⟩ := h.cell j hj
  refine ⟨ad, e, ?_⟩
  rw [← hc]
  unfold World.cell?
  rw [Below.heap_setCell w p v _ (by rw [add_block]; exact hp ad e)]⟩
theorem rd_set3 {w : World} {A : Option Addr} {l : List Int} {b : Nat} (h : Rd w A l) (hp : ∀ ad, A = some ad → ad.block ≠ b) (v0 v1 v2 : Value) :
  Rd (((w.setCell ⟨b, 0, none⟩ v0).setCell ⟨b, 1, none⟩ v1).setCell ⟨b, 2, none⟩ v2) A l := rd_set (rd_set (rd_set h hp v0) hp v1) hp v2
theorem res3 {fn : Func} {p : Tmp} {tmps : Array Value} {w : World} {b : Nat} {v0 v1 v2 : Value} (hf : fn.results = #[.cell p 37]) (hp : tmps.getD p undef = .pointer (some ⟨b, 0, none⟩)) (h : Blk w b 37 [v0, v1, v2]) :
  (results fn tmps).run Tryz.prog w = .ok (.agg #[v0, v1, v2]) w := by
 obtain ⟨y0, y1, y2⟩ := h.c3
 have hp2 := hp
 rw [Array.getD_eq_getD_getElem?] at hp2
 simp [results, hf, hp2, go_sem, y0, y1, y2]
end D2
namespace D3
open Go.RowKit Go.Proofs.YtalbgklfhabnkaaGreatDoor Ow Pl N2 Dp D1 D2
def Gives (w : World) (v : Int) (e : Ending) (w' : World) : Prop :=
 ∃ A c, e = .returned (.agg #[.bool (dneg v), .slice A (digs (dm v)).length c, .int .i64 (de v)]) ∧ (digs (dm v)).length ≤ c ∧ Rd w' A (digs (dm v)) ∧ Bel w w'
theorem gives_end {fn : Func} {p : Tmp} {tmps : Array Value} {w w2 : World} {v : Int} {b c2 : Nat} {A2 : Option Addr} (hf : fn.results = #[.cell p 37]) (hp : tmps.getD p undef = .pointer (some ⟨b, 0, none⟩))
  (hB : Bel w w2) (hb : w.heap.size ≤ b) (KB : Blk w2 b 37 [.bool false, .slice none 0 0, .int .i64 0]) (hr : Rd w2 A2 (digs (dm v))) (hc : (digs (dm v)).length ≤ c2) :
  bodyPost Tryz.prog fn (Gives w v) .ret { tmps := tmps, defers := [] }
   (((w2.setCell ⟨b, 0, none⟩ (.bool (dneg v))).setCell ⟨b, 1, none⟩ (.slice A2 (digs (dm v)).length c2)).setCell ⟨b, 2, none⟩ (.int .i64 (de v))) := by
 have KF := ((KB.set 0 (.bool (dneg v))).set 1 (.slice A2 (digs (dm v)).length c2)).set 2 (.int .i64 (de v))
 have BF := ((hB.out.setCell (p := ⟨b, 0, none⟩) hb (.bool (dneg v))).setCell (p := ⟨b, 1, none⟩) hb (.slice A2 (digs (dm v)).length c2)).setCell (p := ⟨b, 2, none⟩) hb (.int .i64 (de v))
 have RF : Rd (((w2.setCell ⟨b, 0, none⟩ (.bool (dneg v))).setCell ⟨b, 1, none⟩ (.slice A2 (digs (dm v)).length c2)).setCell ⟨b, 2, none⟩ (.int .i64 (de v))) A2 (digs (dm v)) := by
  by_cases h0 : dm v = 0
  ·rw [h0, digs_zero]; exact Rd.nil _ _
  ·exact rd_set3 hr (fun ad2 he => by subst he; exact rd_far KB (fun z => by simp) hr h0) _ _ _
 exact bodyPost_ret (v := .agg #[.bool (dneg v), .slice A2 (digs (dm v)).length c2, .int .i64 (de v)]) (res3 hf hp KF) rfl ⟨A2, c2, rfl, hc, RF, ⟨BF⟩⟩
end D3
namespace D4
open Go.RowKit Go.Proofs.YtalbgklfhabnkaaGreatDoor Ow Pl N2 Dp D1 D2 D3
theorem cell_set {w : World} {p q : Addr} {v x : Value} (hp : p.block ≠ q.block) (h : w.cell? p = some x) : (w.setCell q v).cell? p = some x := by
 rw [← h]; unfold World.cell?; rw [Below.heap_setCell w q v _ hp]
theorem cell_set3 {w : World} {p : Addr} {b : Nat} {v0 v1 v2 x : Value} (hp : p.block ≠ b) (h : w.cell? p = some x) :
  (((w.setCell ⟨b, 0, none⟩ v0).setCell ⟨b, 1, none⟩ v1).setCell ⟨b, 2, none⟩ v2).cell? p = some x := cell_set hp (cell_set hp (cell_set hp h))
theorem ne1 (a : Nat) : a + 1 ≠ a + 1 + 1 := by omega
theorem ne2 (a : Nat) : a ≠ a + 1 + 1 := by omega
theorem len_mul {x y a b : Nat} (h : (digs x).length ≤ a) (k : (digs y).length ≤ b) : (digs (x * y)).length ≤ a + b := by
 apply digs_len_le.2
 rw [Nat.pow_add]
 exact Nat.mul_lt_mul'' (digs_len_le.1 h) (digs_len_le.1 k)
end D4
namespace D5
open Go.RowKit Go.Proofs.YtalbgklfhabnkaaGreatDoor Ow Pl N2 Dp D1 D2 D3
theorem of_len {N : Nat} (h : N ≤ 9223372036854775807) : (digs N).length ≤ 3 :=
 digs_len_le.2 (Nat.lt_of_le_of_lt h (by decide))
end D5
namespace D6
open Go.RowKit Go.Proofs.YtalbgklfhabnkaaGreatDoor Ow Pl N2 Dp D1 D2 D3
theorem len_p2 (k : Nat) : (digs (2 ^ k)).length ≤ k / 24 + 1 := by
 apply digs_len_le.2
 rw [show (16777216 : Nat) = 2 ^ 24 from rfl, ← Nat.pow_mul]
 exact Nat.pow_lt_pow_right (by decide) (by omega)
end D6
namespace Dt
open Go Go.RowKit Go.Proofs.YtalbgklfhabnkaaGreatDoor Ow Pl Dp
def deB : List Nat := [0, 1, 56, 2, 57, 49, 28, 3, 61, 58, 42, 50, 38, 29, 17, 4, 62, 47, 59, 36, 45, 43, 51, 22, 53, 39, 33, 30, 24, 18, 12, 5, 63, 55, 48, 27, 60, 41, 37, 16, 46, 35, 44, 21, 52, 32, 23, 11, 54, 26, 40, 15, 34, 20, 31, 10, 25, 14, 19, 9, 13, 8, 7, 6]
structure Tab (w : World) : Prop where
 cell : ∀ i, i < 64 → w.cell? ⟨1, i, none⟩ = some (.int .u8 (deB.getD i 0 : Nat))
theorem Tab.bel {w w' : World} (h : Tab w) (b : Bel w w') : Tab w' := ⟨fun i hi => b.cell (h.cell i hi)⟩
theorem and_low {j m : Nat} (hm : m % 2 = 1) (hlt : m < 2 ^ j) : m &&& (2 ^ j - m) = 1 := by
 apply Nat.eq_of_testBit_eq
 intro i
 have h1 : (2 ^ j - m).testBit i = (decide (i < j) && !(m - 1).testBit i) := by
  have := Nat.testBit_two_pow_sub_succ (show m - 1 < 2 ^ j by omega) i
  rwa [show m - 1 + 1 = m from by omega] at this
 rw [Nat.testBit_and, h1]
 cases i with
 | zero =>
  have hj : 0 < j := by
   rcases Nat.eq_zero_or_pos j with h | h
   ·subst h; simp at hlt; omega
   ·exact h
  rw [Nat.testBit_zero, Nat.testBit_zero, Nat.testBit_zero, decide_eq_true hm, decide_eq_true hj, decide_eq_false (show ¬ (m - 1) % 2 = 1 by omega)]
  rfl
 | succ i =>
  rw [Nat.testBit_succ, Nat.testBit_succ, show (m - 1) / 2 = m / 2 from by omega, Nat.testBit_succ]
  have : (1 / 2 : Nat).testBit i = false := by simp
  rw [this]
  cases (m / 2).testBit i <;> simp
theorem and_neg {x : Nat} (h0 : x ≠ 0) (h : x < 2 ^ 64) : x &&& (2 ^ 64 - x) = 2 ^ tz x := by
 have e := odd_eq x
 have hk : tz x ≤ 64 := by
  have h2 : 2 ^ tz x ≤ x := by
   have hp := odd_pos h0
   have := Nat.mul_le_mul_right (2 ^ tz x) (show 1 ≤ odd x by omega)
   omega
  exact Nat.le_of_lt ((Nat.pow_lt_pow_iff_right (by decide : 1 < 2)).1 (Nat.lt_of_le_of_lt h2 h))
 have hp := Nat.two_pow_pos (tz x)
 have hlt : odd x < 2 ^ (64 - tz x) := by
  have : odd x * 2 ^ tz x < 2 ^ (64 - tz x) * 2 ^ tz x := by rw [e, ← Nat.pow_add, Nat.sub_add_cancel hk]; exact h
  exact Nat.lt_of_mul_lt_mul_right this
 have e2 : 2 ^ 64 - x = (2 ^ (64 - tz x) - odd x) <<< tz x := by
  rw [Nat.shiftLeft_eq, Nat.sub_mul, ← Nat.pow_add, Nat.sub_add_cancel hk, e]
 have e3 : x = odd x <<< tz x := by rw [Nat.shiftLeft_eq, e]
 conv => lhs; rw [e2]; arg 1; rw [e3]
 rw [← Nat.shiftLeft_and_distrib, and_low (odd_odd h0) hlt, Nat.shiftLeft_eq, Nat.one_mul]
theorem deb_at : ∀ k : Fin 24, 2 ^ k.1 * 285870213051353865 % 18446744073709551616 / 288230376151711744 < 64 ∧ deB.getD (2 ^ k.1 * 285870213051353865 % 18446744073709551616 / 288230376151711744) 0 = k.1 := by decide +kernel
theorem wrap_u64 (z : Int) : IntKind.u64.wrap z = z % 18446744073709551616 := by
 simp [IntKind.wrap, IntKind.bits, IntKind.signed]
theorem and_u64 {x : Nat} (h0 : x ≠ 0) (h : x < 16777216) : bits .and .u64 (x : Int) (IntKind.u64.wrap (-(x : Int))) = ((2 ^ tz x : Nat) : Int) := by
 have e1 : IntKind.u64.wrap (-(x : Int)) = ((2 ^ 64 - x : Nat) : Int) := by rw [wrap_u64]; omega
 rw [e1]
 show IntKind.u64.wrap ((BitVec.ofInt 64 (x : Int) &&& BitVec.ofInt 64 ((2 ^ 64 - x : Nat) : Int)).toNat : Nat) = _
 rw [BitVec.toNat_and, BitVec.ofInt_natCast, BitVec.ofInt_natCast, BitVec.toNat_ofNat, BitVec.toNat_ofNat, Nat.mod_eq_of_lt (by omega), Nat.mod_eq_of_lt (by omega), and_neg h0 (by omega), wrap_u64]
 have : 2 ^ tz x ≤ x := by
  have hp := odd_pos h0
  have h1 := Nat.mul_le_mul_right (2 ^ tz x) (show 1 ≤ odd x by omega)
  have h2 := odd_eq x
  omega
 clear e1
 generalize 2 ^ tz x = y at *
 omega
theorem tz_small {x : Nat} (h0 : x ≠ 0) (h : x < 16777216) : tz x < 24 := by
 have hp := odd_pos h0
 have h1 := Nat.mul_le_mul_right (2 ^ tz x) (show 1 ≤ odd x by omega)
 have h2 := odd_eq x
 exact (Nat.pow_lt_pow_iff_right (by decide : 1 < 2)).1 (show 2 ^ tz x < 2 ^ 24 by omega)
theorem tz64_calls (x : Nat) (w : World) (h0 : x ≠ 0) (h : x < 16777216) (T : Tab w) : Calls Tryz.prog 74 #[.int .u64 x] w fun e w' => e = .returned (.int .i64 (tz x)) ∧ w = w' := by
 have hb : ((x : Int) == 0) = false := beq_eq_false_iff_ne.mpr (by omega)
 have ht := tz_small h0 h
 obtain ⟨r, hr, hrlt, c⟩ : ∃ r : Nat, IntKind.u64.wrap (((2 ^ tz x : Nat) : Int) * 285870213051353865) / 288230376151711744 = (r : Int) ∧ r < 64 ∧ w.cell? ⟨1, r, none⟩ = some (.int .u8 (tz x)) := by
  obtain ⟨d1, d2⟩ := deb_at ⟨tz x, ht⟩
  refine ⟨_, ?_, d1, by rw [T.cell _ d1, d2]⟩
  rw [wrap_u64]
  generalize 2 ^ tz x = y
  show _ = ((y * 285870213051353865 % 18446744073709551616 / 288230376151711744 : Nat) : Int)
  omega
 obtain ⟨n, hn⟩ : ∃ n, IntKind.u64.wrap (-(x : Int)) = n := ⟨_, rfl⟩
 obtain ⟨p, hp⟩ : ∃ p, bits .and .u64 (x : Int) n = p := ⟨_, rfl⟩
 have hp2 : p = ((2 ^ tz x : Nat) : Int) := by rw [← hp, ← hn]; exact and_u64 h0 h
 rw [← hp2] at hr
 obtain ⟨q, hq⟩ : ∃ q, IntKind.u64.wrap (p * 285870213051353865) = q := ⟨_, rfl⟩
 rw [hq] at hr
 generalize tz x = t at *
 clear hp2 h h0
 have hr1 : (r : Int) < 64 := by omega
 have hr0 : (0 : Int) ≤ (r : Int) := by omega
 go_enter Tryz.func74, Tryz.ntmps74
 go_wp2
 go_ret
 exact ⟨rfl, rfl⟩
theorem tz_calls (x : Nat) (w : World) (h0 : x ≠ 0) (h : x < 16777216) (T : Tab w) : Calls Tryz.prog 39 #[.int .u64 x] w fun e w' => e = .returned (.int .i64 (tz x)) ∧ w = w' := by
 go_enter Tryz.func39, Tryz.ntmps39
 go_wp2_with (go_at_call 74; (with_reducible refine (tz64_calls _ _ h0 h T).mono ?_); rintro e w' ⟨rfl, rfl⟩)
 go_ret
 exact ⟨rfl, rfl⟩
end Dt
namespace Pd
open Go Go.ChangeShapes Go.WideShapes Go.ChangeAt Go.RowKit Ow Dt
theorem own : ownKnob Tryz.prog.godebug = none := by kernel_rfl
theorem laidOut : laidOutB Tryz.prog = true := by kernel_rfl
theorem g64 : Tryz.prog.globalNamed "math/bits.deBruijn64tab" = some 1 := by kernel_rfl
theorem t64 : (Tryz.prog.globals[1]?).map (·.type) = some 141 := by kernel_rfl
theorem c5 : Tryz.prog.cellsOf 5 = 1 := by kernel_rfl
theorem c64 : Tryz.prog.cellsOf 141 = 64 := by kernel_rfl
abbrev laid2 : List (String × DataW Unit) := [("math/bits.deBruijn32tab", Rows.laid_math_bits_deBruijn32tab), ("math/bits.deBruijn64tab", Rows.laid_math_bits_deBruijn64tab)]
def zs64 : List Int := deB.map (fun n : Nat => (n : Int))
theorem data64 : (Rows.laid_math_bits_deBruijn64tab : DataW Unit) = Lib.tabData .u8 zs64 := by rfl
theorem of_laid {W : World} (h : laidMetH Tryz.prog laid2 W) : Tab W := by
 rw [MakeChecks.laidMetH_plain _ _ _ (by kernel_rfl)] at h
 have h2 := h.tail
 rw [data64] at h2
 have hT := Lib.tabIs_of_head g64 t64 Tryz.underlying141 Tryz.underlying5 c5 c64 h2
 refine ⟨fun i hi => ?_⟩
 rw [hT.cell g64 i (by simpa [zs64, deB] using hi)]
 have hl : i < deB.length := by simpa [deB] using hi
 congr 2
 unfold zs64
 rw [List.getD_eq_getElem?_getD, List.getD_eq_getElem?_getD, List.getElem?_map, List.getElem?_eq_getElem hl]
 rfl
theorem door_met (os : Os) (args : Array Value) : laidMetH Tryz.prog laid2 ((World.doorLaid Tryz.prog 400 os).forCall (fun _ _ => 0) ⟨#[], args, []⟩).memory :=
 laidMetH_of_parts3 (fuel := 8) (laidMet_of_run' 8 (by kernel_rfl) (by kernel_rfl)) (by kernel_rfl) (by kernel_rfl)
end Pd
namespace Na
open Go.RowKit Go.Proofs.YtalbgklfhabnkaaGreatDoor Ow Pl N1 N2 N3
theorem clone_calls (ad : Addr) (n c : Nat) (l : List Int) (w : World) (h : Rd w (some ad) l) (hl : l.length ≤ 100000) (hn : l.length = n) :
  Calls Tryz.prog 188 #[.slice (some ad) n c] w
   fun e w' => ∃ v, e = .returned v ∧ OwnI w' w.heap.size 3 1 v n (ints l) ∧ Bel w w' := by
 subst hn
 have hnil := fun w => Lib.run_eql_slice_nil (P := Tryz.prog) w 35 3 (some ad) l.length c 0 0 Tryz.underlying35
 obtain ⟨i0, hi, hz0, hz1, hz2⟩ := info_parts info3
 have H := Ho.mk h
 clear h
 go_enter Tryz.func188, Tryz.ntmps188
 go_wp2_with (at_builtin; (with_reducible refine wpList_apps _ rfl (.tmp 5) (.tmp 6) 35 rfl w.heap.size 3 (.int .i64 0) 8 Tryz.underlying35 info3 rfl _ 0 [] rfl (OwnI.lit _ _ (Nat.le_refl _)) ad l.length c (ints l) rfl (ints_len l) ((H.out.bel ((Bel.refl w).alloc _)).news) (ints_one l) (by omega) (by omega) (by simp) ?_); intro v w1 hv hb)
 go_ret
 have hv' := OwnI.mk hv.out
 rw [Nat.zero_add] at hv'
 exact ⟨v, rfl, hv', ⟨((Below.refl _ w).alloc (Nat.le_refl _) _).trans hb⟩⟩
theorem shr_calls (A0 : Option Addr) (c0 x kn : Nat) (k : Int) (w : World) (h0 : Rd w A0 (digs x)) (hc0 : (digs x).length ≤ c0)
  (hx : (digs x).length ≤ 50000) (hk : kn = k.toNat) (hkn : kn ≤ 100000) :
  Calls Tryz.prog 168 #[.slice A0 (digs x).length c0, .int .i64 k] w
   fun e w' => ∃ A c, e = .returned (.slice A (digs (x / 2 ^ kn)).length c) ∧ (digs (x / 2 ^ kn)).length ≤ c ∧ Rd w' A (digs (x / 2 ^ kn)) ∧ Bel w w' := by
 have F0 := Ho.mk (digs_can x).1
 have HF := Ho.mk (shr_digs x kn)
 generalize digs x = l at *
 have r0 := h0.rdB
 obtain ⟨sk, hsk⟩ : ∃ sk, sk = kn / 24 := ⟨_, rfl⟩
 obtain ⟨by_, hby⟩ : ∃ b, b = kn % 24 := ⟨_, rfl⟩
 have hmax : (if k < 0 then 0 else k) = (kn : Int) := by split <;> omega
 have hq : (kn : Int) / 24 = sk := by omega
 have hr : (kn : Int) % 24 = by_ := by omega
 have hby24 : by_ < 24 := by omega
 have HSK := Ho.mk hsk
 have HBY := Ho.mk hby
 have HK := Ho.mk hk
 rw [← hsk, ← hby] at HF
 clear hsk hby hk
 rcases Nat.lt_or_ge sk l.length with hlt | hge
 ·obtain ⟨n, hn⟩ : ∃ n, n = l.length - sk := ⟨_, rfl⟩
  have hn1 : l.length = sk + n := by omega
  obtain ⟨ad, rfl, _⟩ := h0.cell 0 (by omega)
  have hR := h0.drop sk
  have HL := Ho.mk (show (l.drop sk).length = n by rw [List.length_drop]; omega)
  have HN := Ho.mk hn1
  have hn5 : n ≤ 50000 := by omega
  have hlt' : (sk : Int) < l.length := by omega
  clear hn1 hn
  go_enter Tryz.func168, Tryz.ntmps168
  go_wp2_with fail
  rw [hr]
  (with_reducible refine (clone_calls (ad.add sk) _ _ (l.drop sk) _ hR (by rw [List.length_drop]; omega) (by rw [List.length_drop])).mono ?_); rintro e w1 ⟨v, rfl, hv, hb1⟩
  obtain ⟨g, cap, rfl, hcap, hgB, hgl⟩ := hv.form (by omega)
  have hv2 : OwnI w1 w.heap.size 3 1 (.slice (some ⟨g, 0, none⟩) n cap) n (ints (l.drop sk)) := by
   have := HL.out
   rw [List.length_drop] at this
   rw [this] at hv; exact hv
  have HN2 : Ho (l.length - sk = n) := ⟨by have := HN.out; omega⟩
  rw [HN2.out] at hcap ⊢
  have HV := Ho.mk hv2
  have HB1 := Ho.mk hb1
  clear hv hv2 hb1
  go_wp2_with fail
  obtain ⟨p, hp⟩ : ∃ p : Int, p = ((2 ^ by_ : Nat) : Int) := ⟨_, rfl⟩
  obtain ⟨q, hqq⟩ : ∃ q : Int, q = ((2 ^ (24 - by_) : Nat) : Int) := ⟨_, rfl⟩
  obtain ⟨cb, hcb⟩ : ∃ cb : Nat, cb = 24 - by_ := ⟨_, rfl⟩
  have hcb2 : (24 : Int) - by_ = cb := by omega
  obtain ⟨S, hS⟩ : ∃ S, S = shrL p q (l.drop sk) := ⟨_, rfl⟩
  have HP := Ho.mk hp
  have HQ := Ho.mk hqq
  have HCB := Ho.mk hcb
  have HSS := Ho.mk hS
  have HSL : Ho (S.length = n) := ⟨by rw [hS, shrL_len]; exact HL.out⟩
  clear hp hqq hcb hS
  go_loopw [25] (fun v wr => ∃ i : Nat, i ≤ n ∧ v = .int .i64 i ∧ Ho (OwnI wr w.heap.size 3 1 (.slice (some ⟨g, 0, none⟩) n cap) n (ints (S.take i ++ (l.drop sk).drop i))) ∧ Ho (Below w.heap.size w wr)) (fun v _ => n - (intOf v).toNat)
  case atStart => exact ⟨0, Nat.zero_le _, rfl, ⟨by simpa using HV.out⟩, ⟨HB1.out.out⟩⟩
  case round =>
   obtain ⟨i, hi, rfl, HV', HW⟩ := hrel
   rcases Nat.lt_or_ge i n with hlt2 | hge2
   ·have hiu : i < (l.drop sk).length := by rw [HL.out]; exact hlt2
    have hSl : S.length = (l.drop sk).length := by rw [HL.out]; exact HSL.out
    have hlen : i < (S.take i ++ (l.drop sk).drop i).length := by rw [List.length_append, List.length_take, List.length_drop]; omega
    have y0 := HV'.out.cell (owInts_at _ hlen)
    rw [nth_td S _ i hSl hiu] at y0
    have y1 := HV'.out.free i
    obtain ⟨g0, g1⟩ := (F0.out.drop sk).nth i
    obtain ⟨a, ha⟩ : ∃ a, a = nth (l.drop sk) i := ⟨_, rfl⟩
    rw [← ha] at y0 g0 g1
    have HA := Ho.mk ha
    have HLEN := Ho.mk hlen
    clear ha hiu hSl hlen
    by_cases hnx : sk + i + 1 < l.length
    ·obtain ⟨ad', e', z0⟩ := (r0.below HW.out).cell (sk + i + 1) hnx
     cases e'
     obtain ⟨b, hb⟩ : ∃ b, b = nth l (sk + i + 1) := ⟨_, rfl⟩
     obtain ⟨f0, f1⟩ := F0.out.nth (sk + i + 1)
     rw [← hb] at z0 f0 f1
     have HBb := Ho.mk hb
     have hnx' : (sk : Int) + i + 1 < l.length := by omega
     clear hb hnx
     go_wp2
     have y2 := (HV'.out.set i (.int .i64 (a / 2 ^ by_)))
     rw [ints_set] at y2
     have y3 := y2.cell (j := i) (u := .int .i64 (a / 2 ^ by_)) (by rw [← ints_set, List.getElem?_set_self (by rw [ints_len]; exact HLEN.out)])
     have y4 := y2.free i
     have z1 : (wr.setCell ⟨g, i, none⟩ (.int .i64 (a / 2 ^ by_))).cell? (ad.add (sk + i + 1)) = some (.int .i64 b) :=
      (World.cell?_of_block (Below.heap_setCell wr ⟨g, i, none⟩ _ (ad.add (sk + i + 1)).block (by rw [add_block]; have := r0.lt ad rfl (by omega); show ad.block ≠ g; omega))).trans z0
     have w3 := HW.out.setCell (p := ⟨g, i, none⟩) (by show w.heap.size ≤ g; omega) (.int .i64 (a / 2 ^ by_))
     have Y2 := Ho.mk y2
     have W3 := Ho.mk w3
     clear y2 w3 y0 y1 z0
     generalize wr.setCell ⟨g, i, none⟩ (.int .i64 (a / 2 ^ by_)) = wq at *
     obtain ⟨u1, hu1⟩ : ∃ u1 : Int, u1 = a / 2 ^ by_ := ⟨_, rfl⟩
     rw [← hu1] at y3 Y2 ⊢
     have HU := Ho.mk hu1
     clear hu1
     have q1 : IntKind.i64.wrap ((sk : Int) + i) = (sk : Int) + i := IntWalk.i64_in _ (by omega)
     have q2 : IntKind.i64.wrap ((sk : Int) + i + 1) = (sk : Int) + i + 1 := IntWalk.i64_in _ (by omega)
     have q3 : 0 ≤ (sk : Int) + i + 1 := by omega
     have q4 : ((sk : Int) + i + 1).toNat = sk + i + 1 := by omega
     have q5 : IntKind.i64.wrap ((24 : Int) - by_) = cb := (IntWalk.i64_in _ (by omega)).trans hcb2
     have z2 : wq.cell? ⟨ad.block, ad.off + (sk + i + 1), none⟩ = some (.int .i64 b) := z1
     go_region
     have hval := shr_or hby24 g0 g1 f0 f1
     have hres : Ho (bits .or .i64 u1 (bits .and .i64 (wrap64 (b * 2 ^ cb)) 16777215) = nth S i) := ⟨by
      have hiu : i < (l.drop sk).length := by rw [HL.out]; exact hlt2
      have hbn : nth (l.drop sk) (i + 1) = b := by rw [HBb.out]; simp [nth, Nat.add_assoc]
      rw [HU.out, HCB.out, hval, HSS.out, shrL_nth _ _ _ _ hiu, ← HA.out, HP.out, HQ.out, hbn]⟩
     clear hval z1 z2 q1 q2 q3 q4 q5
     rw [hres.out]
     have Y5 := (Y2.out.set i (.int .i64 (nth S i))).drew
     have W5 := (W3.out.setCell (p := ⟨g, i, none⟩) (by show w.heap.size ≤ g; omega) (.int .i64 (nth S i))).drew
     rw [ints_set, List.set_set, set_td S _ i (by rw [HL.out]; exact HSL.out) (by rw [HL.out]; exact hlt2)] at Y5
     have Y6 := Ho.mk Y5
     have W6 := Ho.mk W5
     clear Y5 W5 y3 y4
     generalize (wq.setCell ⟨g, i, none⟩ (.int .i64 (nth S i))).drew = w7 at *
     go_wp2
     go_roundw
     case rel => exact ⟨i + 1, by omega, by simp, Y6, W6⟩
     case measure => simp [intOf]; omega
    ·have hnx' : (l.length : Int) ≤ (sk : Int) + i + 1 := by omega
     have hbn : nth (l.drop sk) (i + 1) = 0 := nth_ge (by rw [List.length_drop]; omega)
     have hres : Ho (a / 2 ^ by_ = nth S i) := ⟨by
      have hiu : i < (l.drop sk).length := by rw [HL.out]; exact hlt2
      rw [HSS.out, shrL_nth _ _ _ _ hiu, ← HA.out, hbn, HP.out]
      simp⟩
     have Y5 := (HV'.out.set i (.int .i64 (a / 2 ^ by_)))
     have W5 := (HW.out.setCell (p := ⟨g, i, none⟩) (by show w.heap.size ≤ g; omega) (.int .i64 (a / 2 ^ by_)))
     rw [ints_set, hres.out, set_td S _ i (by rw [HL.out]; exact HSL.out) (by rw [HL.out]; exact hlt2)] at Y5
     rw [hres.out] at W5
     have Y6 := Ho.mk Y5
     have W6 := Ho.mk W5
     clear Y5 W5 hbn hnx
     go_wp2
     go_roundw
     case rel => exact ⟨i + 1, by omega, by simp, ⟨by rw [hres.out]; exact Y6.out⟩, ⟨by rw [hres.out]; exact W6.out⟩⟩
     case measure => simp [intOf]; omega
   ·obtain rfl : i = n := by omega
    have hfin : S.take i ++ (l.drop sk).drop i = S := by
     rw [List.drop_eq_nil_of_le (by rw [HL.out]; exact Nat.le_refl _), List.append_nil, List.take_of_length_le (by rw [HSL.out]; exact Nat.le_refl _)]
    have hv := HV'.out
    rw [hfin] at hv
    have HVF := Ho.mk hv
    have R : Rd wr (some ⟨g, 0, none⟩) S := ⟨by have := HSL.out; omega, fun j hj => ⟨_, rfl, by
     rw [show (⟨g, 0, none⟩ : Addr).add j = ⟨g, j, none⟩ from by unfold Addr.add; split <;> simp_all]
     exact HVF.out.cell (owInts_at S hj)⟩⟩
    have HE : Ho (trimL S = digs (x / 2 ^ kn)) := ⟨by rw [HSS.out, HP.out, HQ.out]; exact HF.out⟩
    clear hfin hv HV'
    go_wp2_with (go_at_call 187; rw [← HSL.out]; (with_reducible refine (trim_calls _ _ _ _ R (by rw [HSL.out]; exact hcap)).mono ?_); rintro e w' ⟨rfl, rfl⟩)
    go_ret
    rw [← HE.out]
    exact ⟨_, _, rfl, by have := trimN_le S S.length; have := HSL.out; simp [trimL]; omega, R.take _, ⟨HW.out⟩⟩
 ·have e : Ho (digs (x / 2 ^ kn) = []) := ⟨by rw [← HF.out, List.drop_eq_nil_of_le (by omega)]; rfl⟩
  rw [e.out]
  have hge' : decide ((l.length : Int) ≤ sk) = true := decide_eq_true (by omega)
  have hm := h0.max
  go_enter Tryz.func168, Tryz.ntmps168
  go_wp2
  go_ret
  exact ⟨none, 0, rfl, Nat.le_refl _, Rd.nil _ _, Bel.refl _⟩
end Na
namespace N9
open Go.RowKit Go.Proofs.YtalbgklfhabnkaaGreatDoor Ow Pl N1 N2 N3
theorem shl_calls (A0 : Option Addr) (c0 x kn : Nat) (k : Int) (w : World) (h0 : Rd w A0 (digs x)) (hc0 : (digs x).length ≤ c0)
  (hx : (digs x).length ≤ 50000) (hk : kn = k.toNat) (hkn : kn ≤ 100000) :
  Calls Tryz.prog 167 #[.slice A0 (digs x).length c0, .int .i64 k] w
   fun e w' => ∃ A c, e = .returned (.slice A (digs (x * 2 ^ kn)).length c) ∧ (digs (x * 2 ^ kn)).length ≤ c ∧ Rd w' A (digs (x * 2 ^ kn)) ∧ Bel w w' := by
 have F0 := Ho.mk (digs_can x).1
 have HF := Ho.mk (shl_digs x kn)
 generalize digs x = l at *
 have r0 := h0.rdB
 obtain ⟨bo, hbo⟩ : ∃ bo, bo = w.heap.size := ⟨_, rfl⟩
 rw [← hbo] at r0
 have HBO := Ho.mk hbo
 obtain ⟨sk, hsk⟩ : ∃ sk, sk = kn / 24 := ⟨_, rfl⟩
 obtain ⟨by_, hby⟩ : ∃ b, b = kn % 24 := ⟨_, rfl⟩
 obtain ⟨m, hm⟩ : ∃ m, m = sk + (l.length + 1) := ⟨_, rfl⟩
 have hmax : (if k < 0 then 0 else k) = (kn : Int) := by split <;> omega
 have hq : (kn : Int) / 24 = sk := by omega
 have hr : (kn : Int) % 24 = by_ := by omega
 have hm2 : (sk : Int) + l.length + 1 = m := by omega
 have hby24 : by_ < 24 := by omega
 obtain ⟨p, hp⟩ : ∃ p : Int, p = ((2 ^ by_ : Nat) : Int) := ⟨_, rfl⟩
 have HPP := Ho.mk hp
 have HSK := Ho.mk hsk
 have HBY := Ho.mk hby
 have HM := Ho.mk hm
 have HK := Ho.mk hk
 clear hbo hsk hby hm hk hp
 go_enter Tryz.func167, Tryz.ntmps167
 go_wp2_with (first | (at_make; refine wpList_mk _ rfl _ _ 35 rfl 3 (.int .i64 0) 8 Tryz.underlying35 info3 rfl m rfl rfl (by have := HM.out; have := HSK.out; omega) (by have := HM.out; have := HSK.out; omega) ?_; intro w1 hk1 hl1 hs1; rw [← HBO.out] at hk1 hs1 ⊢; rw [ints_rep] at hk1) | ((with_reducible refine wpList_cp _ rfl (.tmp 24) (.tmp 25) 35 rfl 3 Tryz.underlying35 size3 bo sk A0 (m - sk) (m - sk) l.length c0 l rfl rfl rfl (ints (List.replicate m 0)) hk1 (h0.bel hl1) ?_ ?_ ?_); (have := HM.out; omega); (rw [ints_len, List.length_replicate]; have := HM.out; omega); intro w2 hk2 hg2))
 have e0 : (ints (List.replicate m 0)).take sk ++ (ints l ++ (ints (List.replicate m 0)).drop (sk + l.length)) = ints (List.replicate sk 0 ++ ([] ++ (l ++ [0]).drop 0)) := by
  have hm' : m - (sk + l.length) = 1 := by have := HM.out; omega
  simp only [ints, ← List.map_take, ← List.map_drop, ← List.map_append, List.take_replicate, List.drop_replicate, hm', List.drop_zero, List.nil_append]
  rw [Nat.min_eq_left (by have := HM.out; omega)]
  rfl
 rw [e0] at hk2
 have HK2 := Ho.mk hk2
 have HB2 := Ho.mk (hg2.below (hl1.out.mono (Nat.le_of_eq HBO.out)) (Nat.le_refl _) (by omega))
 have hs2 : bo < w2.heap.size := Nat.lt_of_lt_of_le (by omega) hg2.size
 clear e0 hk2 hg2 hk1 hl1 hs1
 obtain ⟨bc, hbc⟩ : ∃ bc, bc = w2.heap.size := ⟨_, rfl⟩
 have HBC := Ho.mk hbc
 rw [← hbc]
 clear hbc
 go_loopw [9] (fun v wr => ∃ (i : Nat) (c : Int) (d : List Int), i ≤ l.length + 1 ∧ v = .int .i64 ((sk + i : Nat) : Int) ∧ 0 ≤ c ∧ c ≤ 16777216 ∧ Ho (Blk wr bo 3 (ints (List.replicate sk 0 ++ (d ++ (l ++ [0]).drop i)))) ∧ Ho (Blk wr bc 246 [.int .i64 c]) ∧ Ho (Below bo w wr) ∧ bo < wr.heap.size ∧ Ho (d.length = i) ∧ Ho (Lims d) ∧
   Ho (d ++ limbs (l.length + 1 - i) c (fun j => nth l (i + j) * p) = limbs (l.length + 1) 0 (fun j => nth l j * p))) (fun v _ => sk + (l.length + 1) - (intOf v).toNat)
 case atStart =>
  exact ⟨0, 0, [], by omega, by simp, by omega, by omega, ⟨HK2.out.old _⟩, ⟨by rw [HBC.out]; exact Blk.new w2 [.int .i64 0] _⟩, ⟨HB2.out.alloc (by omega) _⟩, by simp; omega, ⟨rfl⟩, ⟨fun x hx => by simp at hx⟩, ⟨by simp⟩⟩
 case round =>
  obtain ⟨i, c, d, hi, rfl, hc0, hc1, KO, KC, HW, hs, HD, HL, HE⟩ := hrel
  have hne : bo ≠ bc := by have := HBC.out; omega
  have hne' : bc ≠ bo := fun e => hne e.symm
  rcases Nat.lt_or_ge i (l.length + 1) with hlt | hge
  ·have hlen : sk + i < (List.replicate sk (0 : Int) ++ (d ++ (l ++ [0]).drop i)).length := by simp [HD.out]; omega
   have y0 := KO.out.cell (owInts_at _ hlen)
   have e1 := nth_mid (List.replicate sk 0) d (l ++ [0]) i (by simp; omega) HD.out
   rw [List.length_replicate] at e1
   rw [e1, nth_snoc] at y0
   have y1 := KO.out.free (sk + i)
   have hm3 : (sk : Int) + i < m := by have := HM.out; omega
   obtain ⟨g0, g1⟩ := F0.out.nth i
   clear hlen e1
   have hw : Ho (wrap64 (nth l i * 2 ^ by_) = nth l i * p ∧ 0 ≤ nth l i * p ∧ nth l i * p ≤ 140737479966720) := ⟨by rw [HPP.out]; exact shl_wrap g0 g1 hby24⟩
   go_wp2_with (go_at_call 186; rw [hw.out.1]; (with_reducible refine (put_calls bc c _ _ KC.out (by have := hw.out.2; omega) (by have := hw.out.2; omega) (by omega) (by omega)).mono ?_); rintro e w' ⟨rfl, rfl⟩)
   go_roundw
   case rel =>
    obtain ⟨p0, p1⟩ := hw.out.2
    have hd := limbs_step (fun j => nth l j * p) i (l.length + 1) c d hlt
    have hk := (KO.out.far (p := ⟨bc, 0, none⟩) hne (.int .i64 ((nth l i * p + c) / 16777216))).set (sk + i) (.int .i64 ((nth l i * p + c) % 16777216))
    have e2 := set_mid (List.replicate sk 0) d (l ++ [0]) i ((nth l i * p + c) % 16777216) (by simp; omega) HD.out
    rw [List.length_replicate] at e2
    rw [ints_set, e2] at hk
    refine ⟨i + 1, _, _, by omega, by simp; omega, ?_, ?_, ⟨hk⟩, ⟨(KC.out.set 0 _).far hne' _⟩, ⟨(HW.out.setCell (by have := HBC.out; simp; omega) _).setCell (by simp) _⟩, by simpa [World.setCell] using hs, ⟨by simp [HD.out]⟩, ⟨lims_append HL.out (fun x hx => by simp at hx; subst hx; omega)⟩, ⟨by rw [hd]; exact HE.out⟩⟩
    all_goals
     generalize nth l i * p = z at p0 p1 ⊢
     omega
   case measure => simp [intOf]; omega
  ·obtain rfl : i = l.length + 1 := by omega
   have hm3 : decide ((sk : Int) + (l.length + 1) < m) = false := decide_eq_false (by have := HM.out; omega)
   have R : Rd wr (some ⟨bo, 0, none⟩) (List.replicate sk 0 ++ d) := by
    have := KO.out.rd (by simp [HD.out]; have := HSK.out; omega)
    rwa [List.drop_eq_nil_of_le (by simp), List.append_nil] at this
   have hlen : (List.replicate sk (0 : Int) ++ d).length = m := by simp [HD.out]; have := HM.out; omega
   have HE2 : Ho (trimL (List.replicate sk 0 ++ d) = digs (x * 2 ^ kn)) := ⟨by
    have e3 := HE.out
    rw [Nat.sub_self, limbs, List.append_nil] at e3
    have e4 := HF.out
    rw [← HSK.out, ← HBY.out, ← HPP.out, ← e3] at e4
    exact e4⟩
   have HLn := Ho.mk hlen
   clear hlen
   go_wp2_with (go_at_call 187; rw [← HLn.out]; (with_reducible refine (trim_calls _ _ _ _ R (Nat.le_refl _)).mono ?_); rintro e w' ⟨rfl, rfl⟩)
   go_ret
   rw [← HE2.out]
   exact ⟨_, _, rfl, by have := trimN_le (List.replicate sk (0 : Int) ++ d) (List.replicate sk (0 : Int) ++ d).length; simp [trimL]; omega, R.take _, ⟨by rw [← HBO.out]; exact HW.out⟩⟩
end N9
namespace N8
open Go.RowKit Go.Proofs.YtalbgklfhabnkaaGreatDoor Ow Pl N1 N2
theorem mul_calls (A0 A1 : Option Addr) (c0 c1 x y : Nat) (w : World) (h0 : Rd w A0 (digs x)) (h1 : Rd w A1 (digs y))
  (hx : (digs x).length ≤ 50000) (hy : (digs y).length ≤ 50000) :
  Calls Tryz.prog 226 #[.slice A0 (digs x).length c0, .slice A1 (digs y).length c1] w
   fun e w' => ∃ A c, e = .returned (.slice A (digs (x * y)).length c) ∧ (digs (x * y)).length ≤ c ∧ Rd w' A (digs (x * y)) ∧ Bel w w' := by
 have F0 := Ho.mk (digs_can x).1
 have F1 := Ho.mk (digs_can y).1
 have V0 := Ho.mk (digs_val x)
 have V1 := Ho.mk (digs_val y)
 generalize digs x = l0 at *
 generalize digs y = l1 at *
 have r0 := h0.rdB
 have r1 := h1.rdB
 obtain ⟨bo, hbo⟩ : ∃ bo, bo = w.heap.size := ⟨_, rfl⟩
 rw [← hbo] at r0 r1
 have HBO := Ho.mk hbo
 obtain ⟨m, hm⟩ : ∃ m, m = l0.length + l1.length := ⟨_, rfl⟩
 have HM := Ho.mk hm
 have hm2 : (l0.length : Int) + l1.length = m := by omega
 clear hbo hm
 go_enter Tryz.func226, Tryz.ntmps226
 go_wp2_with (at_make; refine wpList_mk _ rfl _ _ 35 rfl 3 (.int .i64 0) 8 Tryz.underlying35 info3 rfl m rfl rfl (by have := HM.out; omega) (by have := HM.out; omega) ?_; intro w1 hk1 hl1 hs1)
 rw [← HBO.out] at hk1 hs1 ⊢
 have HK1 := Ho.mk hk1
 have HL1 := Ho.mk hl1
 have HS1 : bo < w1.heap.size := by omega
 clear hk1 hl1 hs1 hm2
 go_loopw [19] (fun v wr => ∃ (i : Nat) (o : List Int), i ≤ l0.length ∧ v = .int .i64 i ∧ Ho (Blk wr bo 3 (ints o)) ∧ Ho (Below bo w wr) ∧ bo < wr.heap.size ∧ Ho (o.length = m) ∧ Ho (Lims o) ∧
   Ho (∀ j, i + l1.length ≤ j → nth o j = 0) ∧ Ho (val o = val (l0.take i) * val l1)) (fun v _ => l0.length - (intOf v).toNat)
 case atStart =>
  exact ⟨0, List.replicate m 0, Nat.zero_le _, rfl, ⟨by rw [← ints_rep]; exact HK1.out⟩, ⟨HL1.out.out.mono (by rw [HBO.out]; exact Nat.le_refl _)⟩, HS1, ⟨by simp⟩, ⟨lims_rep _⟩, ⟨fun j _ => nth_rep _ _⟩, ⟨by simp [val_rep, val]⟩⟩
 case round =>
  obtain ⟨i, o, hi, rfl, KO, HW, hs, HLn, HLi, HZ, HV⟩ := hrel
  rcases Nat.lt_or_ge i l0.length with hlt | hge
  ·obtain ⟨wo, rfl⟩ : ∃ wo : World, wo = wr := ⟨_, rfl⟩
   obtain ⟨ad0, rfl, x0⟩ := (r0.below HW.out).cell i hlt
   obtain ⟨bc, hbc⟩ : ∃ bc, bc = wo.heap.size := ⟨_, rfl⟩
   have HBC := Ho.mk hbc
   clear hbc
   obtain ⟨g0, g1⟩ := F0.out.nth i
   go_wp2_with fail
   rw [← HBC.out]
   go_loopw [26] (fun v wi => ∃ (k : Nat) (c : Int) (u : List Int), k ≤ l1.length ∧ v = .int .i64 k ∧ 0 ≤ c ∧ c < 16777216 ∧ Ho (Blk wi bo 3 (ints u)) ∧ Ho (Blk wi bc 246 [.int .i64 c]) ∧ Ho (Below bo w wi) ∧ bo < wi.heap.size ∧ Ho (u.length = m) ∧ Ho (Lims u) ∧
     Ho (∀ j, i + l1.length ≤ j → nth u j = 0) ∧ Ho (val u + 16777216 ^ (i + k) * c = val (l0.take i) * val l1 + 16777216 ^ i * nth l0 i * val (l1.take k))) (fun v _ => l1.length - (intOf v).toNat)
   case atStart =>
    refine ⟨0, 0, o, Nat.zero_le _, rfl, by omega, by omega, ⟨KO.out.old _⟩, ⟨by rw [HBC.out]; exact Blk.new wo [.int .i64 0] _⟩, ⟨HW.out.alloc (by omega) _⟩, by simp; omega, HLn, HLi, HZ, ⟨by rw [HV.out]; simp [val]⟩⟩
   case round =>
    obtain ⟨k, c, u, hk, rfl, hc0, hc1, KU, KC, HWi, hsi, HLn', HLi', HZ', HE⟩ := hrel
    have hne : bo ≠ bc := by have := HBC.out; omega
    have hne' : bc ≠ bo := fun e => hne e.symm
    rcases Nat.lt_or_ge k l1.length with hlt' | hge'
    ·obtain ⟨ad1, rfl, x1⟩ := (r1.below HWi.out).cell k hlt'
     obtain ⟨g10, g11⟩ := F1.out.nth k
     have hik : i + k < u.length := by have := HLn'.out; have := HM.out; omega
     have y0 := KU.out.cell (owInts_at u hik)
     have y1 := KU.out.free (i + k)
     obtain ⟨g20, g21⟩ := HLi'.out.nth (i + k)
     obtain ⟨p0, p1⟩ := mul_le_limb g0 g1 g10 g11
     have hikm : (i : Int) + k < m := by have := HLn'.out; omega
     clear hik
     go_wp2_with (go_at_call 186; (with_reducible refine (put_calls bc c _ _ KC.out (by omega) (by omega) (by omega) (by omega)).mono ?_); rintro e w' ⟨rfl, rfl⟩)
     go_roundw
     case rel =>
      obtain ⟨q0, q1⟩ : 0 ≤ (nth u (i + k) + nth l0 i * nth l1 k + c) / 16777216 ∧ (nth u (i + k) + nth l0 i * nth l1 k + c) / 16777216 < 16777216 := by
       generalize nth l0 i * nth l1 k = z at p0 p1 ⊢
       omega
      have hk := (KU.out.far (p := ⟨bc, 0, none⟩) hne (.int .i64 ((nth u (i + k) + nth l0 i * nth l1 k + c) / 16777216))).set (i + k) (.int .i64 ((nth u (i + k) + nth l0 i * nth l1 k + c) % 16777216))
      rw [ints_set] at hk
      have hik : i + k < u.length := by have := HLn'.out; have := HM.out; omega
      refine ⟨k + 1, _, _, by omega, by simp, q0, q1, ⟨hk⟩, ⟨(KC.out.set 0 _).far hne' _⟩, ⟨(HWi.out.setCell (by have := HBC.out; simp; omega) _).setCell (by simp) _⟩, by simpa [World.setCell] using hsi, ⟨by rw [List.length_set]; exact HLn'.out⟩, ⟨HLi'.out.set _ (by omega)⟩, ⟨fun j hj => by rw [nth_set_ne (by omega)]; exact HZ'.out j hj⟩, ⟨?_⟩⟩
      rw [val_set _ _ _ hik, val_succ hlt', show i + (k + 1) = (i + k) + 1 from by omega, Int.pow_succ]
      exact mul_step HE.out (Int.pow_add _ _ _)
     case measure => simp [intOf]; omega
    ·obtain rfl : k = l1.length := by omega
     have hik : i + l1.length < u.length := by have := HLn'.out; have := HM.out; omega
     have y0 := KU.out.cell (owInts_at u hik)
     have y1 := KU.out.free (i + l1.length)
     have y2 := KC.out.cell (i := 0) (v := .int .i64 c) rfl
     have hikm : (i : Int) + l1.length < m := by have := HLn'.out; omega
     clear hik
     go_wp2
     go_roundw
     case rel =>
      have hk := KU.out.set (i + l1.length) (.int .i64 c)
      rw [ints_set] at hk
      have hik : i + l1.length < u.length := by have := HLn'.out; have := HM.out; omega
      refine ⟨i + 1, _, by omega, by simp, ⟨hk⟩, ⟨HWi.out.setCell (by simp) _⟩, by simpa [World.setCell] using hsi, ⟨by rw [List.length_set]; exact HLn'.out⟩, ⟨HLi'.out.set _ ⟨hc0, hc1⟩⟩, ⟨fun j hj => by rw [nth_set_ne (by omega)]; exact HZ'.out j (by omega)⟩, ⟨?_⟩⟩
      have hz := HZ'.out (i + l1.length) (Nat.le_refl _)
      have he := HE.out
      rw [List.take_length] at he
      rw [val_set _ _ _ hik, hz, Int.sub_zero, he, val_succ hlt, Int.add_mul]
     case measure => simp [intOf]; omega
  ·obtain rfl : i = l0.length := by omega
   have HE : Ho (trimL o = digs (x * y)) := ⟨trim_digs HLi.out (by have := HV.out; rw [List.take_length, V0.out, V1.out] at this; rw [this]; exact (Int.natCast_mul x y).symm)⟩
   have R : Rd wr (some ⟨bo, 0, none⟩) o := KO.out.rd (by have := HLn.out; have := HM.out; omega)
   go_wp2_with (go_at_call 187; rw [← HLn.out]; (with_reducible refine (trim_calls _ _ _ _ R (Nat.le_refl _)).mono ?_); rintro e w' ⟨rfl, rfl⟩)
   go_ret
   rw [← HE.out]
   exact ⟨_, _, rfl, by have := trimN_le o o.length; simp [trimL]; omega, R.take _, ⟨by rw [← HBO.out]; exact HW.out⟩⟩
end N8
namespace E1
open Go Go.RowKit Go.Proofs.YtalbgklfhabnkaaGreatDoor Ow Pl Dp Dt D3
theorem tz_mod {y k : Nat} (h : y % 2 ^ k ≠ 0) : tz y = tz (y % 2 ^ k) := by
 have hz := odd_eq (y % 2 ^ k)
 have hlt : tz (y % 2 ^ k) < k := by
  have h1 := Nat.mod_lt y (Nat.two_pow_pos k)
  have hp := odd_pos h
  have h2 := Nat.mul_le_mul_right (2 ^ tz (y % 2 ^ k)) (show 1 ≤ odd (y % 2 ^ k) by omega)
  exact (Nat.pow_lt_pow_iff_right (by decide : 1 < 2)).1 (show 2 ^ tz (y % 2 ^ k) < 2 ^ k by omega)
 have ho := odd_odd h
 obtain ⟨d, hd⟩ : ∃ d, k = tz (y % 2 ^ k) + (d + 1) := ⟨k - tz (y % 2 ^ k) - 1, by omega⟩
 generalize tz (y % 2 ^ k) = t at *
 generalize odd (y % 2 ^ k) = m at *
 have e : y = (2 ^ (d + 1) * (y / 2 ^ k) + m) * 2 ^ t := by
  rw [Nat.add_mul, hz, Nat.mul_right_comm, ← Nat.pow_add, Nat.add_comm (d + 1) t, ← hd]
  exact (Nat.div_add_mod y (2 ^ k)).symm
 rw [e]
 refine (odd_of ?_).2
 rw [Nat.pow_succ, Nat.mul_assoc, Nat.mul_left_comm]
 omega
theorem tz_limb (i : Nat) : ∀ x : Nat, (∀ j, j < i → nth (digs x) j = 0) → nth (digs x) i ≠ 0 → tz x = 24 * i + tz (nth (digs x) i).toNat := by
 induction i with
 | zero =>
  intro x _ h
  rw [D2.nth0] at h ⊢
  have := tz_mod (y := x) (k := 24) (by omega)
  rw [this, Int.toNat_natCast, show (2 : Nat) ^ 24 = 16777216 from rfl]; omega
 | succ i ih =>
  intro x hz h
  have h0 := hz 0 (by omega)
  rw [D2.nth0] at h0
  have hx : x ≠ 0 := fun e => by subst e; rw [digs_zero] at h; exact h rfl
  have hx2 : x / 16777216 ≠ 0 := by omega
  rw [digs_pos hx, nth_cons] at h ⊢
  have := ih (x / 16777216) (fun j hj => by have := hz (j + 1) (by omega); rwa [digs_pos hx, nth_cons] at this) h
  have e := tz_shift 24 hx2
  rw [show x / 16777216 * 2 ^ 24 = x from by omega] at e
  omega
theorem tz_callsI (z : Int) (w : World) (h0 : 0 < z) (h : z < 16777216) (T : Tab w) : Calls Tryz.prog 39 #[.int .u64 z] w fun e w' => e = .returned (.int .i64 (tz z.toNat)) ∧ w = w' := by
 have := tz_calls z.toNat w (by omega) (by omega) T
 rwa [Int.toNat_of_nonneg (by omega)] at this
theorem gives_end2 {fn : Func} {p : Tmp} {tmps : Array Value} {w w2 : World} {v : Int} {b c2 m : Nat} {n : Bool} {e : Int} {A2 : Option Addr} (e1 : dneg v = n) (e2 : dm v = m) (e3 : de v = e) (hf : fn.results = #[.cell p 37]) (hp : tmps.getD p undef = .pointer (some ⟨b, 0, none⟩))
  (hB : Bel w w2) (hb : w.heap.size ≤ b) (KB : Blk w2 b 37 [.bool false, .slice none 0 0, .int .i64 0]) (hr : Rd w2 A2 (digs m)) (hc : (digs m).length ≤ c2) :
  bodyPost Tryz.prog fn (Gives w v) .ret { tmps := tmps, defers := [] }
   (((w2.setCell ⟨b, 0, none⟩ (.bool n)).setCell ⟨b, 1, none⟩ (.slice A2 (digs m).length c2)).setCell ⟨b, 2, none⟩ (.int .i64 e)) := by
 subst e1; subst e2; subst e3
 exact gives_end hf hp hB hb KB hr hc
theorem isNz_calls (x : Int) (w : World) (b : Bool) (hb : (x == 0) = !b) : Calls Tryz.prog 205 #[.int .i64 x] w fun e w' => e = .returned (.bool b) ∧ w = w' := by
 cases b
 ·obtain rfl : x = 0 := by simpa using hb
  go_enter Tryz.func205, Tryz.ntmps205
  go_wp2
  go_ret
  exact ⟨rfl, rfl⟩
 ·have hb' : (x == 0) = false := by simpa using hb
  have hb2 : (x != 0) = true := by rw [bne, hb']; rfl
  go_enter Tryz.func205, Tryz.ntmps205
  go_wp2
  go_ret
  exact ⟨rfl, rfl⟩
def First (l : List Int) (i : Nat) : Prop := i < l.length ∧ (∀ j, j < i → nth l j = 0) ∧ nth l i ≠ 0
theorem index0_calls (A : Option Addr) (c : Nat) (w : World) :
  Calls Tryz.prog 204 #[.slice A 0 c, .func (.func 205) #[] #[]] w fun e w' => e = .returned (.int .i64 (-1)) ∧ w = w' := by
 go_enter Tryz.func204, Tryz.ntmps204
 go_wp2_with fail
 go_loop [8] (fun v => v = .int .i64 0) (fun v => 0)
 case atStart => rfl
 case round =>
  subst hrel
  go_wp2
  go_ret
  exact ⟨rfl, rfl⟩
def FoundNz (l : List Int) (w : World) (e : Ending) (w' : World) : Prop := ∃ i : Nat, e = .returned (.int .i64 i) ∧ First l i ∧ w = w'
theorem index_calls (A : Option Addr) (c i0 : Nat) (l : List Int) (w : World) (h : Rd w A l) (hF : First l i0) :
  Calls Tryz.prog 204 #[.slice A l.length c, .func (.func 205) #[] #[]] w (FoundNz l w) := by
 have hm := h.max
 have HF := Ho.mk hF
 have hF1 := hF.1
 clear hF
 go_enter Tryz.func204, Tryz.ntmps204
 go_wp2
 go_loop [8] (fun v => ∃ i : Nat, i ≤ i0 ∧ v = .int .i64 i) (fun v => i0 - (intOf v).toNat)
 case atStart => exact ⟨0, by omega, rfl⟩
 case round =>
  obtain ⟨i, hi, rfl⟩ := hrel
  have hlt : i < l.length := by omega
  obtain ⟨ad, rfl, x0⟩ := h.cell i hlt
  rcases Nat.lt_or_eq_of_le hi with h1 | h1
  ·have hz : Ho ((nth l i == 0) = !false) := ⟨by rw [HF.out.2.1 i h1]; rfl⟩
   go_wp2_with (go_at_call 205; (with_reducible refine (isNz_calls _ _ false hz.out).mono ?_); rintro e w' ⟨rfl, rfl⟩)
   go_round
   case rel => exact ⟨i + 1, by omega, by go_num⟩
   case measure => simp [intOf]; omega
  ·subst h1
   have hz : Ho ((nth l i == 0) = !true) := ⟨beq_eq_false_iff_ne.mpr HF.out.2.2⟩
   go_wp2_with (go_at_call 205; (with_reducible refine (isNz_calls _ _ true hz.out).mono ?_); rintro e w' ⟨rfl, rfl⟩)
   go_ret
   exact ⟨i, rfl, HF.out, rfl⟩
theorem first_ex {l : List Int} (h : IsN l) (hl : l ≠ []) : ∃ i, First l i := by
 have hex : ∃ i, i < l.length ∧ nth l i ≠ 0 := by
  refine ⟨l.length - 1, by have := List.length_pos_iff.2 hl; omega, ?_⟩
  have h2 := h.2
  rcases List.eq_nil_or_concat l with rfl | ⟨r, x, rfl⟩
  ·exact absurd rfl hl
  ·simpa [nth] using h2
 obtain ⟨n, hn⟩ := hex
 induction n using Nat.strongRecOn with
 | _ n ih =>
  by_cases hz : ∀ j, j < n → nth l j = 0
  ·exact ⟨n, hn.1, hz, hn.2⟩
  ·have hz' : ∃ j, j < n ∧ nth l j ≠ 0 := by
    apply Classical.byContradiction
    intro hc
    exact hz (fun j hj => Classical.byContradiction (fun hne => hc ⟨j, hj, hne⟩))
   obtain ⟨j, hj, hne⟩ := hz'
   exact ih j hj ⟨by omega, hne⟩
theorem make_calls (A : Option Addr) (c x : Nat) (n : Bool) (e : Int) (w : World) (T : Tab w) (h : Rd w A (digs x)) (hc : (digs x).length ≤ c) (hx : (digs x).length ≤ 4000) (he0 : -50000 ≤ e) (he1 : e ≤ 50000) :
  Calls Tryz.prog 193 #[.bool n, .slice A (digs x).length c, .int .i64 e] w (Gives w (sc n x e)) := by
 rcases Nat.eq_zero_or_pos x with h0 | h0
 ·subst h0
  rw [sc_zero, digs_zero]
  go_enter Tryz.func193, Tryz.ntmps193
  go_wp2_with fail
  (with_reducible refine (index0_calls _ _ _).mono ?_); rintro e w' ⟨rfl, rfl⟩
  go_wp2
  refine bodyPost_ret (v := .agg #[.bool false, .slice none 0 0, .int .i64 0]) (by simp [results, Tryz.f193, go_sem]) rfl ⟨none, 0, by rw [show dm 0 = 0 from odd_zero, digs_zero]; rfl, ?_, ?_, ?_⟩
  ·rw [show dm 0 = 0 from odd_zero, digs_zero]; exact Nat.le_refl _
  ·rw [show dm 0 = 0 from odd_zero, digs_zero]; exact Rd.nil _ _
  ·exact (Bel.refl w).alloc _
 ·have hx0 : x ≠ 0 := by omega
  obtain ⟨i0, hF⟩ := first_ex (digs_can x) (fun q => hx0 (digs_nil.1 q))
  have IX := Ho.mk (fun (W : World) (g : Bel w W) => index_calls A c i0 (digs x) W (h.bel g) hF)
  have E := Ho.mk (show dneg (sc n x e) = n ∧ dm (sc n x e) = odd x ∧ de (sc n x e) = e + tz x from ⟨sc_neg hx0, sc_m _ _ _, sc_e hx0 (by unfold K; omega)⟩)
  have HC := Ho.mk hc
  have H := Ho.mk h
  have hl := h.max
  have hT1 : tz x ≤ 96000 := by
   have h1 := odd_eq x
   have h2 : 2 ^ tz x ≤ x := by
    have hp := odd_pos hx0
    have := Nat.mul_le_mul_right (2 ^ tz x) (show 1 ≤ odd x by omega)
    omega
   have h3 := Nat.lt_of_le_of_lt h2 (blen_lt x)
   have h4 := (Nat.pow_lt_pow_iff_right (by decide : 1 < 2)).1 h3
   have h5 := D2.blen_len x
   omega
  have SH := Ho.mk (fun (W : World) (g : Bel w W) => Na.shr_calls A c x (tz x) (tz x : Int) W (h.bel g) hc (by omega) (Int.toNat_natCast _).symm (by omega))
  clear hc h hF
  go_enter Tryz.func193, Tryz.ntmps193
  go_wp2_with fail
  have KB := Ho.mk (Blk.new w [.bool false, .slice none 0 0, .int .i64 0] 37)
  have HB := Ho.mk ((Bel.refl w).alloc (.cells #[.bool false, .slice none 0 0, .int .i64 0] 37))
  (with_reducible refine (IX.out _ HB.out).mono ?_); rintro r w1 ⟨i, rfl, hFi, rfl⟩
  have HT := Ho.mk (tz_limb i x hFi.2.1 hFi.2.2)
  obtain ⟨ad, rfl, x0⟩ := (H.out.bel HB.out).cell i hFi.1
  have hi1 := hFi.1
  obtain ⟨z, hz⟩ : ∃ z, z = nth (digs x) i := ⟨_, rfl⟩
  have hz0 := (digs_can x).1.nth i
  have hz2 := hFi.2.2
  rw [← hz] at HT x0 hz0 hz2
  obtain ⟨hz0, hz1⟩ := hz0
  have TZ := Ho.mk (fun (W : World) (g : Bel w W) => tz_callsI z W (by omega) (by omega) (T.bel g))
  have ht24 := tz_small (x := z.toNat) (by omega) (by omega)
  clear hFi hz
  go_wp2_with fail
  (with_reducible refine (TZ.out _ HB.out).mono ?_); rintro r w1 ⟨rfl, rfl⟩
  have hk : (i : Int) * 24 + (tz z.toNat : Int) = (tz x : Int) := by rw [HT.out]; omega
  go_wp2_with fail
  (with_reducible refine (SH.out _ HB.out).mono ?_); rintro r w2 ⟨A2, c2, rfl, hc2, hr2, hb2⟩
  have hxo : x / 2 ^ tz x = odd x := rfl
  rw [hxo] at hc2 hr2 ⊢
  have HB2 := Ho.mk (HB.out.trans hb2)
  have KB2 := Ho.mk (KB.out.bel hb2)
  obtain ⟨y0, y1, y2⟩ := KB2.out.c3
  have z0 := KB2.out.free 0
  have z1 := KB2.out.free 1
  have z2 := KB2.out.free 2
  have HR2 := Ho.mk hr2
  clear hr2 hb2 hxo x0 hk
  go_wp2
  exact gives_end2 (fn := Tryz.f193) (v := sc n x e) E.out.1 E.out.2.1 E.out.2.2 rfl rfl HB2.out (by omega) KB2.out HR2.out hc2
end E1
namespace E2
open Go Go.RowKit Go.Proofs.YtalbgklfhabnkaaGreatDoor Ow Pl Dp Dt D3 E1
theorem zeroT_calls (A : Option Addr) (c : Nat) (n : Bool) (e : Int) (w : World) :
  Calls Tryz.prog 206 #[.agg #[.bool n, .slice A 0 c, .int .i64 e]] w fun e w' => e = .returned (.bool true) ∧ Bel w w' := by
 go_enter Tryz.func206, Tryz.ntmps206
 go_wp2
 go_ret
 exact ⟨rfl, (Bel.refl w).alloc _⟩
theorem zeroF_calls (A : Option Addr) (c x : Nat) (n : Bool) (e : Int) (w : World) (hx : x ≠ 0) :
  Calls Tryz.prog 206 #[.agg #[.bool n, .slice A (digs x).length c, .int .i64 e]] w fun e w' => e = .returned (.bool false) ∧ Bel w w' := by
 have hb : (((digs x).length : Int) == 0) = false := beq_eq_false_iff_ne.mpr (fun q => hx (digs_nil.1 (List.length_eq_zero_iff.1 (Int.ofNat.inj q))))
 clear hx
 go_enter Tryz.func206, Tryz.ntmps206
 go_wp2
 go_ret
 exact ⟨rfl, (Bel.refl w).alloc _⟩
def Row (w : World) (x : Nat) (e : Ending) (w' : World) : Prop :=
 ∃ A c, e = .returned (.slice A (digs x).length c) ∧ (digs x).length ≤ c ∧ Rd w' A (digs x) ∧ Bel w w'
theorem raised_calls (A : Option Addr) (c x k : Nat) (n : Bool) (e e0 : Int) (w : World) (h : Rd w A (digs x)) (hc : (digs x).length ≤ c) (hx : (digs x).length ≤ 4000) (hk : e - e0 = k) (hk5 : k ≤ 100000) (b0 : -50000 ≤ e) (b1 : e ≤ 50000) (b2 : -50000 ≤ e0) (b3 : e0 ≤ 50000) :
  Calls Tryz.prog 207 #[.agg #[.bool n, .slice A (digs x).length c, .int .i64 e], .int .i64 e0] w (Row w (x * 2 ^ k)) := by
 have SH := Ho.mk (fun (W : World) (g : Bel w W) => N9.shl_calls A c x k (k : Int) W (h.bel g) hc (by omega) (Int.toNat_natCast _).symm (by omega))
 clear h hx
 go_enter Tryz.func207, Tryz.ntmps207
 go_wp2_with fail
 (with_reducible refine (SH.out _ ((Bel.refl w).alloc _)).mono ?_); rintro r w2 ⟨A2, c2, rfl, hc2, hr2, hb2⟩
 have HR := Ho.mk hr2
 have HB := Ho.mk hb2
 clear hr2 hb2
 go_wp2
 go_ret
 exact ⟨A2, c2, rfl, hc2, HR.out, ((Bel.refl w).alloc _).trans HB.out⟩
theorem shift_calls (A : Option Addr) (c : Nat) (v k : Int) (w : World) (T : Tab w) (h : Rd w A (digs (dm v))) (hc : (digs (dm v)).length ≤ c) (hx : (digs (dm v)).length ≤ 4000) (he0 : -20000 ≤ de v) (he1 : de v ≤ 20000) (hk0 : -20000 ≤ k) (hk1 : k ≤ 20000) :
  Calls Tryz.prog 174 #[.agg #[.bool (dneg v), .slice A (digs (dm v)).length c, .int .i64 (de v)], .int .i64 k] w (Gives w (sc (dneg v) (dm v) (de v + k))) := by
 have MK := Ho.mk (fun (W : World) (g : Bel w W) => make_calls A c (dm v) (dneg v) (de v + k) W (T.bel g) (h.bel g) hc hx (by omega) (by omega))
 obtain ⟨r, hr⟩ : ∃ r, r = sc (dneg v) (dm v) (de v + k) := ⟨_, rfl⟩
 rw [← hr] at MK ⊢
 clear hr h hx
 generalize dneg v = n at *
 generalize de v = ev at *
 generalize digs (dm v) = l at *
 go_enter Tryz.func174, Tryz.ntmps174
 go_wp2_with fail
 have KB := Ho.mk (Blk.new (w.alloc (.cells #[.bool n, .slice A l.length c, .int .i64 ev] 37)) [.bool false, .slice none 0 0, .int .i64 0] 37)
 (with_reducible refine (MK.out _ (((Bel.refl w).alloc _).alloc _)).mono ?_); rintro e w1 ⟨A2, c2, rfl, hc2, hr2, hb2⟩
 rw [World.size_alloc] at KB
 have HB2 := Ho.mk ((((Bel.refl w).alloc _).alloc _).trans hb2)
 have KB2 := Ho.mk (KB.out.bel hb2)
 obtain ⟨y0, y1, y2⟩ := KB2.out.c3
 have z0 := KB2.out.free 0
 have z1 := KB2.out.free 1
 have z2 := KB2.out.free 2
 have HR2 := Ho.mk hr2
 clear hr2 hb2 KB
 go_wp2
 exact gives_end (fn := Tryz.f174) rfl rfl HB2.out (by omega) KB2.out HR2.out hc2
theorem flip_calls (A : Option Addr) (c : Nat) (v : Int) (w : World) (T : Tab w) (h : Rd w A (digs (dm v))) (hc : (digs (dm v)).length ≤ c) (hx : (digs (dm v)).length ≤ 4000) (he0 : -20000 ≤ de v) (he1 : de v ≤ 20000) :
  Calls Tryz.prog 173 #[.agg #[.bool (dneg v), .slice A (digs (dm v)).length c, .int .i64 (de v)]] w (Gives w (-v)) := by
 have MK := Ho.mk (fun (W : World) (g : Bel w W) => make_calls A c (dm v) (!dneg v) (de v) W (T.bel g) (h.bel g) hc hx (by omega) (by omega))
 rw [sc_flip, sc_self] at MK
 generalize - v = r at *
 clear h hx
 generalize dneg v = n at *
 generalize de v = ev at *
 generalize digs (dm v) = l at *
 go_enter Tryz.func173, Tryz.ntmps173
 go_wp2_with fail
 have KB := Ho.mk (Blk.new (w.alloc (.cells #[.bool n, .slice A l.length c, .int .i64 ev] 37)) [.bool false, .slice none 0 0, .int .i64 0] 37)
 (with_reducible refine (MK.out _ (((Bel.refl w).alloc _).alloc _)).mono ?_); rintro e w1 ⟨A2, c2, rfl, hc2, hr2, hb2⟩
 rw [World.size_alloc] at KB
 have HB2 := Ho.mk ((((Bel.refl w).alloc _).alloc _).trans hb2)
 have KB2 := Ho.mk (KB.out.bel hb2)
 obtain ⟨y0, y1, y2⟩ := KB2.out.c3
 have z0 := KB2.out.free 0
 have z1 := KB2.out.free 1
 have z2 := KB2.out.free 2
 have HR2 := Ho.mk hr2
 clear hr2 hb2 KB
 go_wp2
 exact gives_end (fn := Tryz.f173) rfl rfl HB2.out (by omega) KB2.out HR2.out hc2
theorem sign_calls (A : Option Addr) (c : Nat) (v : Int) (w : World) :
  Calls Tryz.prog 195 #[.agg #[.bool (dneg v), .slice A (digs (dm v)).length c, .int .i64 (de v)]] w fun e w' => e = .returned (.int .i64 (sgn v)) ∧ Bel w w' := by
 by_cases h0 : v = 0
 ·subst h0
  have e : Ho (sgn 0 = 0) := ⟨rfl⟩
  rw [show dm 0 = 0 from odd_zero, digs_zero, e.out]
  generalize dneg 0 = n
  generalize de 0 = ev
  go_enter Tryz.func195, Tryz.ntmps195
  go_wp2_with fail
  (with_reducible refine (zeroT_calls _ _ _ _ _).mono ?_); rintro r w1 ⟨rfl, hb1⟩
  have HB := Ho.mk hb1
  clear hb1
  go_wp2
  go_ret
  exact ⟨rfl, (((Bel.refl w).alloc _).alloc _).trans HB.out⟩
 ·have Z := Ho.mk (fun (W : World) => zeroF_calls A c (dm v) (dneg v) (de v) W (fun q => h0 (dm_zero.1 q)))
  have S : Ho (dneg v = true → sgn v = -1) := ⟨fun q => cmpI_lt (of_decide_eq_true q)⟩
  have S2 : Ho (dneg v = false → sgn v = 1) := ⟨fun q => cmpI_gt (by have := of_decide_eq_false q; omega)⟩
  clear h0
  generalize sgn v = s at *
  generalize dneg v = n at *
  generalize de v = ev at *
  generalize digs (dm v) = l at *
  have KB := Ho.mk (Blk.new (w.alloc (.cells #[.bool n, .slice A l.length c, .int .i64 ev] 37)) [.bool n, .slice A l.length c, .int .i64 ev] 257)
  rw [World.size_alloc] at KB
  cases n
  ·go_enter Tryz.func195, Tryz.ntmps195
   go_wp2_with fail
   (with_reducible refine (Z.out _).mono ?_); rintro r w1 ⟨rfl, hb1⟩
   have HB := Ho.mk hb1
   have KB1 := Ho.mk (KB.out.bel hb1)
   obtain ⟨y0, y1, y2⟩ := KB1.out.c3
   clear hb1
   go_wp2
   go_ret
   exact ⟨by rw [S2.out trivial]; rfl, (((Bel.refl w).alloc _).alloc _).trans HB.out⟩
  ·go_enter Tryz.func195, Tryz.ntmps195
   go_wp2_with fail
   (with_reducible refine (Z.out _).mono ?_); rintro r w1 ⟨rfl, hb1⟩
   have HB := Ho.mk hb1
   have KB1 := Ho.mk (KB.out.bel hb1)
   obtain ⟨y0, y1, y2⟩ := KB1.out.c3
   clear hb1
   go_wp2
   go_ret
   exact ⟨by rw [S.out trivial]; rfl, (((Bel.refl w).alloc _).alloc _).trans HB.out⟩
theorem of_calls (n : Int) (w : World) (T : Tab w) (h0 : -9223372036854775807 ≤ n) (h1 : n ≤ 9223372036854775807) :
  Calls Tryz.prog 177 #[.int .i64 n] w (Gives w (sc (decide (n < 0)) n.natAbs 0)) := by
 have hl : (digs n.natAbs).length ≤ 3 := D5.of_len (by omega)
 have KB := Ho.mk (Blk.new w [.bool false, .slice none 0 0, .int .i64 0] 37)
 have HB := Ho.mk ((Bel.refl w).alloc (.cells #[.bool false, .slice none 0 0, .int .i64 0] 37))
 have MK := Ho.mk (fun (A : Option Addr) (c : Nat) (W : World) (T : Tab W) (g : Rd W A (digs n.natAbs)) (hc : (digs n.natAbs).length ≤ c) => make_calls A c n.natAbs (decide (n < 0)) 0 W T g hc (by omega) (by omega) (by omega))
 obtain ⟨r, hr⟩ : ∃ r, r = sc (decide (n < 0)) n.natAbs 0 := ⟨_, rfl⟩
 rw [← hr] at MK ⊢
 clear hr hl
 rcases Int.lt_or_le n 0 with hn | hn
 ·have OF := Ho.mk (fun (W : World) => R2.natOf_calls (-n) n.natAbs W (by omega) (by omega))
  rw [decide_eq_true hn] at MK
  go_enter Tryz.func177, Tryz.ntmps177
  go_wp2_with fail
  (with_reducible refine (OF.out _).mono ?_); rintro e w1 ⟨A3, c3, rfl, hc3, hr3, hb3⟩
  go_wp2_with fail
  (with_reducible refine (MK.out _ _ _ (T.bel (HB.out.trans hb3)) hr3 hc3).mono ?_); rintro e w2 ⟨A4, c4, rfl, hc4, hr4, hb4⟩
  have KB2 := Ho.mk (KB.out.bel (hb3.trans hb4))
  have HB2 := Ho.mk (HB.out.trans (hb3.trans hb4))
  obtain ⟨y0, y1, y2⟩ := KB2.out.c3
  have z0 := KB2.out.free 0
  have z1 := KB2.out.free 1
  have z2 := KB2.out.free 2
  have HR4 := Ho.mk hr4
  clear hr4 hr3 hb3 hb4
  go_wp2
  exact gives_end (fn := Tryz.f177) rfl rfl HB2.out (by omega) KB2.out HR4.out hc4
 ·have OF := Ho.mk (fun (W : World) => R2.natOf_calls n n.natAbs W (by omega) (by omega))
  have hd : decide (n < 0) = false := decide_eq_false (by omega)
  rw [hd] at MK
  go_enter Tryz.func177, Tryz.ntmps177
  go_wp2_with fail
  (with_reducible refine (OF.out _).mono ?_); rintro e w1 ⟨A3, c3, rfl, hc3, hr3, hb3⟩
  go_wp2_with fail
  (with_reducible refine (MK.out _ _ _ (T.bel (HB.out.trans hb3)) hr3 hc3).mono ?_); rintro e w2 ⟨A4, c4, rfl, hc4, hr4, hb4⟩
  have KB2 := Ho.mk (KB.out.bel (hb3.trans hb4))
  have HB2 := Ho.mk (HB.out.trans (hb3.trans hb4))
  obtain ⟨y0, y1, y2⟩ := KB2.out.c3
  have z0 := KB2.out.free 0
  have z1 := KB2.out.free 1
  have z2 := KB2.out.free 2
  have HR4 := Ho.mk hr4
  clear hr4 hr3 hb3 hb4
  go_wp2
  exact gives_end (fn := Tryz.f177) rfl rfl HB2.out (by omega) KB2.out HR4.out hc4
end E2
namespace E3
open Go Go.RowKit Go.Proofs.YtalbgklfhabnkaaGreatDoor Ow Pl Dp Dt D3 E1 E2
theorem mul_calls (A0 A1 : Option Addr) (c0 c1 : Nat) (u v : Int) (w : World) (T : Tab w) (h0 : Rd w A0 (digs (dm u))) (h1 : Rd w A1 (digs (dm v))) (hx : (digs (dm u)).length ≤ 1000) (hy : (digs (dm v)).length ≤ 1000)
    (he0 : -20000 ≤ de u) (he1 : de u ≤ 20000) (hf0 : -20000 ≤ de v) (hf1 : de v ≤ 20000) :
    Calls Tryz.prog 229 #[.agg #[.bool (dneg u), .slice A0 (digs (dm u)).length c0, .int .i64 (de u)], .agg #[.bool (dneg v), .slice A1 (digs (dm v)).length c1, .int .i64 (de v)]] w (Gives w (sc (dneg u != dneg v) (dm u * dm v) (de u + de v))) := by
  have ML := Ho.mk (fun (W : World) (g : Bel w W) => N8.mul_calls A0 A1 c0 c1 (dm u) (dm v) W (h0.bel g) (h1.bel g) (by omega) (by omega))
  have hxy : (digs (dm u * dm v)).length ≤ 4000 := by
    have := D4.len_mul (x := dm u) (y := dm v) (Nat.le_refl _) (Nat.le_refl _)
    omega
  have MK := Ho.mk (fun (A : Option Addr) (c : Nat) (W : World) (gb : Bel w W) (g : Rd W A (digs (dm u * dm v))) (hc : (digs (dm u * dm v)).length ≤ c) => make_calls A c (dm u * dm v) (dneg u != dneg v) (de u + de v) W (T.bel gb) g hc hxy (by omega) (by omega))
  obtain ⟨r, hr⟩ : ∃ r, r = sc (dneg u != dneg v) (dm u * dm v) (de u + de v) := ⟨_, rfl⟩
  rw [← hr] at MK ⊢
  clear hr h0 h1 hx hy hxy
  generalize dm u * dm v = xy at *
  generalize dneg u = n0 at *
  generalize dneg v = n1 at *
  generalize digs (dm u) = l0 at *
  generalize digs (dm v) = l1 at *
  generalize de u = e0 at *
  generalize de v = e1 at *
  have q1 : IntKind.i64.wrap (e0 + e1) = e0 + e1 := IntWalk.i64_in _ (by omega)
  go_enter Tryz.func229, Tryz.ntmps229
  go_wp2_with fail
  have KB := Ho.mk (Blk.new ((w.alloc (.cells #[.bool n0, .slice A0 l0.length c0, .int .i64 e0] 37)).alloc (.cells #[.bool n1, .slice A1 l1.length c1, .int .i64 e1] 37)) [.bool false, .slice none 0 0, .int .i64 0] 37)
  rw [World.size_alloc, World.size_alloc] at KB
  have HB := Ho.mk ((((Bel.refl w).alloc (.cells #[.bool n0, .slice A0 l0.length c0, .int .i64 e0] 37)).alloc (.cells #[.bool n1, .slice A1 l1.length c1, .int .i64 e1] 37)).alloc (.cells #[.bool false, .slice none 0 0, .int .i64 0] 37))
  have nn := D4.ne2 w.heap.size
  have nn2 : ¬ (w.heap.size + 1 + 1 = w.heap.size) := fun q => D4.ne2 w.heap.size q.symm
  go_region_held3 (fun w' => w'.cell? ⟨w.heap.size, 0, none⟩ = some (.bool n0) ∧ w'.cell? ⟨w.heap.size, 1, none⟩ = some (.slice A0 l0.length c0) ∧ w'.cell? ⟨w.heap.size, 2, none⟩ = some (.int .i64 e0) ∧
      w'.cell? ⟨w.heap.size + 1, 0, none⟩ = some (.bool n1) ∧ w'.cell? ⟨w.heap.size + 1, 1, none⟩ = some (.slice A1 l1.length c1) ∧ w'.cell? ⟨w.heap.size + 1, 2, none⟩ = some (.int .i64 e1))
    (first
      | go_keep
      | (go_split_ands
         refine ⟨?_, ?_, ?_, ?_, ?_, ?_⟩ <;> (apply Bel.cell (by assumption); assumption))
      | (all_goals (go_split_ands; apply Bel.cell (by assumption); assumption))
      | (go_split_ands
         refine ⟨?_, ?_, ?_, ?_, ?_, ?_⟩ <;> (refine D4.cell_set3 ?_ (by assumption); first | exact D4.ne2 _ | exact D4.ne1 _))
      | (all_goals (go_split_ands; refine D4.cell_set3 ?_ (by assumption); first | exact D4.ne2 _ | exact D4.ne1 _)))
    (first
      | (go_at_call 226; refine (ML.out _ HB.out.drew).mono ?_; rintro e w1 ⟨A3, c3, rfl, hc3, hr3, hb3⟩)
      | (go_at_call 193; refine (MK.out _ _ _ (HB.out.trans ((Bel.refl _).drew.trans hb3)) hr3 hc3).mono ?_; rintro e w2 ⟨A4, c4, rfl, hc4, hr4, hb4⟩
         have KB2 := Ho.mk (KB.out.bel ((Bel.refl _).drew.trans (hb3.trans hb4)))
         have HB2 := Ho.mk (HB.out.trans ((Bel.refl _).drew.trans (hb3.trans hb4)))
         obtain ⟨y0, y1, y2⟩ := KB2.out.c3
         have z0 := KB2.out.free 0
         have z1 := KB2.out.free 1
         have z2 := KB2.out.free 2))
  have HR4 := Ho.mk hr4
  clear hr4 hr3 hb3 hb4
  go_wp2
  exact gives_end (fn := Tryz.f229) rfl rfl HB2.out (by omega) KB2.out HR4.out hc4
end E3
namespace E4
open Go Go.RowKit Go.Proofs.YtalbgklfhabnkaaGreatDoor Ow Pl Dp Dt D3 E1 E2
theorem len_add1 {x y a : Nat} (h : (digs x).length ≤ a) (k : (digs y).length ≤ a) : (digs (x + y)).length ≤ a + 1 := by
 apply digs_len_le.2
 have h1 := digs_len_le.1 h
 have h2 := digs_len_le.1 k
 rw [Nat.pow_succ]
 generalize 16777216 ^ a = z at *
 omega
theorem blk_ne {w : World} {p q : Nat} {s t : TypeId} {cs ds : List Value} (h : Blk w p s cs) (k : Blk w q t ds) (hne : s ≠ t) : p ≠ q := fun e => by
 subst e
 have := h.out.symm.trans k.out
 simp at this
 exact hne this.2
theorem pair_blk (w0 : World) (c1 c2 c3 d1 d2 d3 : Value) (t : TypeId) :
  Blk (((w0.alloc (.cells #[c1, c2, c3] t)).alloc (.cells #[d1, d2, d3] t)).drew) w0.heap.size t [c1, c2, c3] ∧ Blk (((w0.alloc (.cells #[c1, c2, c3] t)).alloc (.cells #[d1, d2, d3] t)).drew) (w0.heap.size + 1) t [d1, d2, d3] ∧ Bel w0 (((w0.alloc (.cells #[c1, c2, c3] t)).alloc (.cells #[d1, d2, d3] t)).drew) := by
 refine ⟨((Blk.new w0 [c1, c2, c3] t).old _).drew, ?_, (((Bel.refl w0).alloc _).alloc _).drew⟩
 have := (Blk.new (w0.alloc (.cells #[c1, c2, c3] t)) [d1, d2, d3] t).drew
 rw [World.size_alloc] at this
 exact this
theorem zeroT'_calls (A : Option Addr) (c x : Nat) (n : Bool) (e : Int) (w : World) (hx : x = 0) :
  Calls Tryz.prog 206 #[.agg #[.bool n, .slice A (digs x).length c, .int .i64 e]] w fun e w' => e = .returned (.bool true) ∧ Bel w w' := by
 subst hx; rw [digs_zero]; exact zeroT_calls A c n e w
theorem add_calls (A0 A1 : Option Addr) (c0 c1 : Nat) (u v : Int) (w : World) (T : Tab w) (h0 : Rd w A0 (digs (dm u))) (h1 : Rd w A1 (digs (dm v))) (hc0 : (digs (dm u)).length ≤ c0) (hc1 : (digs (dm v)).length ≤ c1)
    (hl0 : (digs (dm u)).length ≤ 1000) (hl1 : (digs (dm v)).length ≤ 1000) (b0 : -20000 ≤ de u) (b1 : de u ≤ 20000) (b2 : -20000 ≤ de v) (b3 : de v ≤ 20000) :
    Calls Tryz.prog 194 #[.agg #[.bool (dneg u), .slice A0 (digs (dm u)).length c0, .int .i64 (de u)], .agg #[.bool (dneg v), .slice A1 (digs (dm v)).length c1, .int .i64 (de v)]] w (Gives w (u + v)) := by
  have H0 := Ho.mk h0
  have H1 := Ho.mk h1
  have HC0 := Ho.mk hc0
  have HC1 := Ho.mk hc1
  have TT := Ho.mk T
  have HU := Ho.mk (sc_self u)
  have HV := Ho.mk (sc_self v)
  have ZU := Ho.mk (dm_zero (v := u))
  have ZV := Ho.mk (dm_zero (v := v))
  have SU := Ho.mk (fun (W : World) (g : Bel w W) => shift_calls A0 c0 u 0 W (T.bel g) (h0.bel g) hc0 (by omega) b0 b1 (by omega) (by omega))
  have SV := Ho.mk (fun (W : World) (g : Bel w W) => shift_calls A1 c1 v 0 W (T.bel g) (h1.bel g) hc1 (by omega) b2 b3 (by omega) (by omega))
  rw [Int.add_zero, sc_self] at SU SV
  have EU : Ho (u = 0 → u + v = v) := ⟨fun q => by rw [q, Int.zero_add]⟩
  have EV : Ho (v = 0 → u + v = u) := ⟨fun q => by rw [q, Int.add_zero]⟩
  have SG : Ho (-(K : Int) ≤ de u ∧ -(K : Int) ≤ de v) := ⟨de_ge, de_ge⟩
  clear h0 h1 hc0 hc1 T
  obtain ⟨r, hr⟩ : ∃ r, u + v = r := ⟨_, rfl⟩
  have HRR := Ho.mk hr
  rw [hr]
  clear hr
  generalize dneg u = n0 at *
  generalize dneg v = n1 at *
  generalize dm u = x at *
  generalize dm v = y at *
  generalize de u = e0 at *
  generalize de v = e1 at *
  go_enter Tryz.func194, Tryz.ntmps194
  go_upto_region 1 with fail
  have KA := Ho.mk (((Blk.new w [.bool n0, .slice A0 (digs x).length c0, .int .i64 e0] 37).old (.cells #[.bool n1, .slice A1 (digs y).length c1, .int .i64 e1] 37)).old (.cells #[.bool false, .slice none 0 0, .int .i64 0] 37))
  have KC := Ho.mk ((Blk.new (w.alloc (.cells #[.bool n0, .slice A0 (digs x).length c0, .int .i64 e0] 37)) [.bool n1, .slice A1 (digs y).length c1, .int .i64 e1] 37).old (.cells #[.bool false, .slice none 0 0, .int .i64 0] 37))
  have KZ := Ho.mk (Blk.new ((w.alloc (.cells #[.bool n0, .slice A0 (digs x).length c0, .int .i64 e0] 37)).alloc (.cells #[.bool n1, .slice A1 (digs y).length c1, .int .i64 e1] 37)) [.bool false, .slice none 0 0, .int .i64 0] 37)
  have HB := Ho.mk ((((Bel.refl w).alloc (.cells #[.bool n0, .slice A0 (digs x).length c0, .int .i64 e0] 37)).alloc (.cells #[.bool n1, .slice A1 (digs y).length c1, .int .i64 e1] 37)).alloc (.cells #[.bool false, .slice none 0 0, .int .i64 0] 37))
  rw [World.size_alloc] at KC
  rw [World.size_alloc, World.size_alloc] at KZ
  have hZ : ((w.alloc (.cells #[.bool n0, .slice A0 (digs x).length c0, .int .i64 e0] 37)).alloc (.cells #[.bool n1, .slice A1 (digs y).length c1, .int .i64 e1] 37)).alloc (.cells #[.bool false, .slice none 0 0, .int .i64 0] 37) = ((w.alloc (.cells #[.bool n0, .slice A0 (digs x).length c0, .int .i64 e0] 37)).alloc (.cells #[.bool n1, .slice A1 (digs y).length c1, .int .i64 e1] 37)).alloc (.cells #[.bool false, .slice none 0 0, .int .i64 0] 37) := rfl
  generalize ((w.alloc (.cells #[.bool n0, .slice A0 (digs x).length c0, .int .i64 e0] 37)).alloc (.cells #[.bool n1, .slice A1 (digs y).length c1, .int .i64 e1] 37)).alloc (.cells #[.bool false, .slice none 0 0, .int .i64 0] 37) = w0 at *
  clear hZ
  go_cut [5, 6] (fun s5 s6 wx => ∃ p q : Nat, s5 = .pointer (some ⟨p, 0, none⟩) ∧ s6 = .pointer (some ⟨q, 0, none⟩) ∧ Ho (Blk wx p 257 [.bool n0, .slice A0 (digs x).length c0, .int .i64 e0]) ∧ Ho (Blk wx q 257 [.bool n1, .slice A1 (digs y).length c1, .int .i64 e1]) ∧ Ho (Bel w0 wx))
  case first =>
    obtain ⟨a0, a1, a2⟩ := KA.out.c3
    obtain ⟨d0, d1, d2⟩ := KC.out.c3
    have ea0 := World.new_ne w0 _ a0
    have ea1 := World.new_ne w0 _ a1
    have ea2 := World.new_ne w0 _ a2
    have ed0 := World.new_ne w0 _ d0
    have ed1 := World.new_ne w0 _ d1
    have ed2 := World.new_ne w0 _ d2
    go_region_held3 (fun w' => w'.cell? ⟨w.heap.size, 0, none⟩ = some (.bool n0) ∧ w'.cell? ⟨w.heap.size, 1, none⟩ = some (.slice A0 (digs x).length c0) ∧ w'.cell? ⟨w.heap.size, 2, none⟩ = some (.int .i64 e0) ∧
      w'.cell? ⟨w.heap.size + 1, 0, none⟩ = some (.bool n1) ∧ w'.cell? ⟨w.heap.size + 1, 1, none⟩ = some (.slice A1 (digs y).length c1) ∧ w'.cell? ⟨w.heap.size + 1, 2, none⟩ = some (.int .i64 e1)) (go_keep) (fail)
    all_goals (go_wp2_with fail; go_meet)
    all_goals clear KA KC KZ HB a0 a1 a2 d0 d1 d2 ea0 ea1 ea2 ed0 ed1 ed2
    · exact ⟨_, _, rfl, rfl, ⟨(pair_blk ..).1⟩, ⟨(pair_blk ..).2.1⟩, ⟨(pair_blk ..).2.2⟩⟩
    · exact ⟨_, _, rfl, rfl, ⟨(pair_blk ..).2.1⟩, ⟨(pair_blk ..).1⟩, ⟨(pair_blk ..).2.2⟩⟩
  obtain ⟨p, q, rfl, rfl, KP, KQ, HB0⟩ := hcut
  have KA1 := Ho.mk (KA.out.bel HB0.out)
  have KC1 := Ho.mk (KC.out.bel HB0.out)
  have KZ1 := Ho.mk (KZ.out.bel HB0.out)
  have HB1 := Ho.mk (HB.out.trans HB0.out)
  clear KA KC KZ HB HB0
  obtain ⟨y0p, y1p, y2p⟩ := KP.out.c3
  obtain ⟨y0q, y1q, y2q⟩ := KQ.out.c3
  by_cases hx : x = 0
  · have hrv : r = v := by rw [← HRR.out]; exact EU.out (ZU.out.1 hx)
    subst hrv
    have Z := Ho.mk (fun (W : World) => zeroT'_calls A0 c0 x n0 e0 W hx)
    obtain ⟨y0c, y1c, y2c⟩ := KC1.out.c3
    clear EU EV SU ZU ZV HU HV HRR hx SG
    go_wp2_with fail
    (with_reducible refine (Z.out _).mono ?_); rintro e w1 ⟨rfl, hb1⟩
    have KC2 := Ho.mk (KC1.out.bel hb1)
    have KZ2 := Ho.mk (KZ1.out.bel hb1)
    have HB2 := Ho.mk (HB1.out.trans hb1)
    clear y0c y1c y2c
    obtain ⟨y0c, y1c, y2c⟩ := KC2.out.c3
    clear hb1
    go_wp2_with fail
    (with_reducible refine (SV.out _ HB2.out).mono ?_); rintro e w2 ⟨A2, c2, rfl, hc2, hr2, hb2⟩
    have KB2 := Ho.mk (KZ2.out.bel hb2)
    have HB3 := Ho.mk (HB2.out.trans hb2)
    have HR2 := Ho.mk hr2
    clear hr2 hb2 y0c y1c y2c y0p y1p y2p y0q y1q y2q
    obtain ⟨y0, y1, y2⟩ := KB2.out.c3
    have z0 := KB2.out.free 0
    have z1 := KB2.out.free 1
    have z2 := KB2.out.free 2
    go_wp2
    exact gives_end (fn := Tryz.f194) rfl rfl HB3.out (by omega) KB2.out HR2.out hc2
  by_cases hy : y = 0
  · have hrv : r = u := by rw [← HRR.out]; exact EV.out (ZV.out.1 hy)
    subst hrv
    have ZF := Ho.mk (fun (W : World) => zeroF_calls A0 c0 x n0 e0 W hx)
    have Z := Ho.mk (fun (W : World) => zeroT'_calls A1 c1 y n1 e1 W hy)
    clear EU EV SV ZU ZV HU HV HRR hy hx SG
    go_wp2_with fail
    (with_reducible refine (ZF.out _).mono ?_); rintro e w1 ⟨rfl, hb1⟩
    have KQ2 := Ho.mk (KQ.out.bel hb1)
    have KA2 := Ho.mk (KA1.out.bel hb1)
    have KZ2 := Ho.mk (KZ1.out.bel hb1)
    have HB2 := Ho.mk (HB1.out.trans hb1)
    clear y0q y1q y2q y0p y1p y2p hb1
    obtain ⟨y0q, y1q, y2q⟩ := KQ2.out.c3
    go_wp2_with fail
    (with_reducible refine (Z.out _).mono ?_); rintro e w2 ⟨rfl, hb2⟩
    have KA3 := Ho.mk (KA2.out.bel hb2)
    have KZ3 := Ho.mk (KZ2.out.bel hb2)
    have HB3 := Ho.mk (HB2.out.trans hb2)
    clear y0q y1q y2q hb2
    obtain ⟨y0a, y1a, y2a⟩ := KA3.out.c3
    go_wp2_with fail
    (with_reducible refine (SU.out _ HB3.out).mono ?_); rintro e w3 ⟨A2, c2, rfl, hc2, hr2, hb3⟩
    have KB2 := Ho.mk (KZ3.out.bel hb3)
    have HB4 := Ho.mk (HB3.out.trans hb3)
    have HR2 := Ho.mk hr2
    clear hr2 hb3 y0a y1a y2a
    obtain ⟨y0, y1, y2⟩ := KB2.out.c3
    have z0 := KB2.out.free 0
    have z1 := KB2.out.free 1
    have z2 := KB2.out.free 2
    go_wp2
    exact gives_end (fn := Tryz.f194) rfl rfl HB4.out (by omega) KB2.out HR2.out hc2
  have ZF0 := Ho.mk (fun (W : World) => zeroF_calls A0 c0 x n0 e0 W hx)
  have ZF1 := Ho.mk (fun (W : World) => zeroF_calls A1 c1 y n1 e1 W hy)
  clear EU EV SU SV ZU ZV hy hx
  go_wp2_with fail
  (with_reducible refine (ZF0.out _).mono ?_); rintro e w1 ⟨rfl, hb1⟩
  have KP2 := Ho.mk (KP.out.bel hb1)
  have KQ2 := Ho.mk (KQ.out.bel hb1)
  have KZ2 := Ho.mk (KZ1.out.bel hb1)
  have HB2 := Ho.mk (HB1.out.trans hb1)
  clear y0q y1q y2q y0p y1p y2p hb1 KP KQ KZ1 HB1 KA1 KC1
  obtain ⟨y0q, y1q, y2q⟩ := KQ2.out.c3
  go_wp2_with fail
  (with_reducible refine (ZF1.out _).mono ?_); rintro e w2 ⟨rfl, hb2⟩
  have KP3 := Ho.mk (KP2.out.bel hb2)
  have KQ3 := Ho.mk (KQ2.out.bel hb2)
  have KZ3 := Ho.mk (KZ2.out.bel hb2)
  have HB3 := Ho.mk (HB2.out.trans hb2)
  clear y0q y1q y2q hb2 KP2 KQ2 KZ2 HB2
  obtain ⟨y0p, y1p, y2p⟩ := KP3.out.c3
  obtain ⟨y0q, y1q, y2q⟩ := KQ3.out.c3
  obtain ⟨em, hem⟩ : ∃ em : Int, em = min e0 e1 := ⟨_, rfl⟩
  obtain ⟨k0, hk0⟩ := Int.eq_ofNat_of_zero_le (show 0 ≤ e0 - em by omega)
  obtain ⟨k1, hk1⟩ := Int.eq_ofNat_of_zero_le (show 0 ≤ e1 - em by omega)
  have hk05 : k0 ≤ 40000 := by omega
  have hk15 : k1 ≤ 40000 := by omega
  have hem0 : -20000 ≤ em := by omega
  have hem1 : em ≤ 20000 := by omega
  go_upto_region 2 with fail
  go_cut [7] (fun s7 wx => s7 = .int .i64 em ∧ w2 = wx)
  case first =>
    rcases Int.lt_or_le e1 e0 with hlt | hlt
    · obtain rfl : em = e1 := by omega
      clear hem
      go_wp2_with fail
      go_meet
      exact ⟨rfl, rfl⟩
    · obtain rfl : em = e0 := by omega
      clear hem
      go_wp2_with fail
      go_meet
      exact ⟨rfl, rfl⟩
  obtain ⟨rfl, rfl⟩ := hcut
  have hM : (digs (x * 2 ^ k0)).length ≤ 2700 := by
    have := D4.len_mul (x := x) (y := 2 ^ k0) hl0 (D6.len_p2 k0)
    omega
  have hN : (digs (y * 2 ^ k1)).length ≤ 2700 := by
    have := D4.len_mul (x := y) (y := 2 ^ k1) hl1 (D6.len_p2 k1)
    omega
  have RX := Ho.mk (fun (W : World) (g : Bel w W) => raised_calls A0 c0 x k0 n0 e0 em W (H0.out.bel g) HC0.out (by omega) hk0 (by omega) (by omega) (by omega) (by omega) (by omega))
  have RY := Ho.mk (fun (W : World) (g : Bel w W) => raised_calls A1 c1 y k1 n1 e1 em W (H1.out.bel g) HC1.out (by omega) hk1 (by omega) (by omega) (by omega) (by omega) (by omega))
  have HU2 : Ho (sc n0 (x * 2 ^ k0) em = u) := ⟨by rw [sc_down _ _ _ _ (by unfold K; omega), show em + k0 = e0 from by omega]; exact HU.out⟩
  have HV2 : Ho (sc n1 (y * 2 ^ k1) em = v) := ⟨by rw [sc_down _ _ _ _ (by unfold K; omega), show em + k1 = e1 from by omega]; exact HV.out⟩
  clear hem hk0 hk1 HU HV H0 H1 HC0 HC1 ZF0 ZF1 SG
  generalize x * 2 ^ k0 = M at *
  generalize y * 2 ^ k1 = N at *
  go_upto_region 3 with fail
  go_cut [8, 9] (fun s8 s9 wx => ∃ (B0 B1 : Option Addr) (d0 d1 : Nat), s8 = .slice B0 (digs M).length d0 ∧ s9 = .slice B1 (digs N).length d1 ∧ Ho ((digs M).length ≤ d0) ∧ Ho ((digs N).length ≤ d1) ∧ Ho (Rd wx B0 (digs M)) ∧ Ho (Rd wx B1 (digs N)) ∧ Ho (Bel w2 wx))
  case first =>
    go_region_held3 (fun w' => w'.cell? ⟨p, 0, none⟩ = some (.bool n0) ∧ w'.cell? ⟨p, 1, none⟩ = some (.slice A0 (digs x).length c0) ∧ w'.cell? ⟨p, 2, none⟩ = some (.int .i64 e0) ∧ w'.cell? ⟨q, 0, none⟩ = some (.bool n1) ∧ w'.cell? ⟨q, 1, none⟩ = some (.slice A1 (digs y).length c1) ∧ w'.cell? ⟨q, 2, none⟩ = some (.int .i64 e1))
      (first
        | go_keep
        | (go_split_ands
           refine ⟨?_, ?_, ?_, ?_, ?_, ?_⟩ <;> (apply Bel.cell (by assumption); assumption))
        | (all_goals (go_split_ands; apply Bel.cell (by assumption); assumption)))
      (first
        | (go_at_call 207; (with_reducible refine (RX.out _ (by first | exact HB3.out.drew | (refine Bel.trans HB3.out ?_; refine Bel.trans (Bel.refl _).drew ?_; assumption))).mono ?_); rintro e wa ⟨B0, d0, rfl, hB0, hr0, hba⟩)
        | (go_at_call 207; (with_reducible refine (RY.out _ (by first | exact HB3.out.drew | (refine Bel.trans HB3.out ?_; refine Bel.trans (Bel.refl _).drew ?_; assumption))).mono ?_); rintro e wb ⟨B1, d1, rfl, hB1, hr1, hbb⟩))
    all_goals (go_wp2_with fail; go_meet)
    exact ⟨B0, B1, d0, d1, rfl, rfl, ⟨hB0⟩, ⟨hB1⟩, ⟨hr0.bel hbb⟩, ⟨hr1⟩, ⟨(Bel.refl _).drew.trans (hba.trans hbb)⟩⟩
  obtain ⟨B0, B1, d0, d1, rfl, rfl, HB0, HB1, HR0, HR1, HBB⟩ := hcut
  have KP4 := Ho.mk (KP3.out.bel HBB.out)
  have KQ4 := Ho.mk (KQ3.out.bel HBB.out)
  have KZ4 := Ho.mk (KZ3.out.bel HBB.out)
  have HB4 := Ho.mk (HB3.out.trans HBB.out)
  clear RX RY y0p y1p y2p y0q y1q y2q KP3 KQ3 KZ3 HB3 HBB hl0 hl1
  have u0 := KP4.out.cell (i := 0) rfl
  have u1 := KQ4.out.cell (i := 0) rfl
  by_cases hs : n1 = n0
  · subst hs
    have hnn : (n1 == n1) = true := by simp
    have HVV : Ho (sc n1 (M + N) em = r) := ⟨by rw [sc_add, HU2.out, HV2.out]; exact HRR.out⟩
    have hMN : (digs (M + N)).length ≤ 4000 := Nat.le_trans (len_add1 hM hN) (by omega)
    have S3 := Ho.mk (fun (W : World) (g : Bel _ W) => N4.add_calls B0 B1 d0 d1 M N W (HR0.out.bel g) HB0.out (HR1.out.bel g) HB1.out (by omega) (by omega))
    have S4 := Ho.mk (fun (A : Option Addr) (c : Nat) (W : World) (gb : Bel w W) (g : Rd W A (digs (M + N))) (hc : (digs (M + N)).length ≤ c) => make_calls A c (M + N) n1 em W (TT.out.bel gb) g hc hMN (by omega) (by omega))
    rw [HVV.out] at S4
    clear HU2 HV2 HRR HVV hM hN hMN
    generalize M + N = MN at *
    have nn := blk_ne KP4.out KZ4.out (by decide)
    have nn2 : ¬ (w.heap.size + 1 + 1 = p) := fun e => nn e.symm
    go_wp2_with fail
    clear u1
    go_region_held3 (fun w' => w'.cell? ⟨p, 0, none⟩ = some (.bool n1))
      (first
        | go_keep
        | (apply Bel.cell (by assumption); assumption))
      (first
        | (go_at_call 192; refine (S3.out _ (Bel.refl _).drew).mono ?_; rintro e w3 ⟨A4, c4, rfl, hc4, hr4, hb4⟩)
        | (go_at_call 193; refine (S4.out _ _ _ (HB4.out.trans ((Bel.refl _).drew.trans hb4)) hr4 hc4).mono ?_; rintro e w4 ⟨A5, c5, rfl, hc5, hr5, hb5⟩
           have KB2 := Ho.mk (KZ4.out.bel ((Bel.refl _).drew.trans (hb4.trans hb5)))
           have HB5 := Ho.mk (HB4.out.trans ((Bel.refl _).drew.trans (hb4.trans hb5)))
           obtain ⟨y0, y1, y2⟩ := KB2.out.c3
           have z0 := KB2.out.free 0
           have z1 := KB2.out.free 1
           have z2 := KB2.out.free 2))
    have HR5 := Ho.mk hr5
    clear hr5 hr4 hb4 hb5
    go_wp2
    exact gives_end (fn := Tryz.f194) rfl rfl HB5.out (by omega) KB2.out HR5.out hc5
  have hs' : n1 = !n0 := by cases n0 <;> cases n1 <;> simp at hs ⊢
  have hnn : (n0 == n1) = false := by rw [hs']; cases n0 <;> rfl
  rcases Nat.lt_or_ge M N with hMN | hMN
  · have HVV : Ho (sc n1 (N - M) em = r) := ⟨by rw [sc_sub _ _ _ _ (by omega), HV2.out, hs', Bool.not_not, HU2.out, ← HRR.out, Int.add_comm]⟩
    have hl := Ho.mk (Nat.le_trans (digs_len_mono (Nat.sub_le N M)) hN)
    have S2 := Ho.mk (N5.subNo_calls B0 B1 d0 d1 M N _ HR0.out HR1.out hMN)
    have S3 := Ho.mk (fun (W : World) (g : Bel _ W) => N5.sub_calls B1 B0 d1 d0 N M W (HR1.out.bel g) HB1.out (HR0.out.bel g) HB0.out (by omega) (by omega))
    have S4 := Ho.mk (fun (A : Option Addr) (c : Nat) (W : World) (gb : Bel w W) (g : Rd W A (digs (N - M))) (hc : (digs (N - M)).length ≤ c) => make_calls A c (N - M) n1 em W (TT.out.bel gb) g hc (Nat.le_trans hl.out (by omega)) (by omega) (by omega))
    rw [HVV.out] at S4
    clear HU2 HV2 HRR HVV hM hN hMN hs hs' hl
    generalize N - M = MN at *
    go_wp2_with fail
    (with_reducible refine (S2.out).mono ?_); rintro e w3 ⟨rfl, hb3⟩
    have KQ5 := Ho.mk (KQ4.out.bel hb3)
    have KZ5 := Ho.mk (KZ4.out.bel hb3)
    have HB5 := Ho.mk (HB4.out.trans hb3)
    have S33 := Ho.mk (S3.out _ hb3)
    clear u0 u1 hb3
    go_wp2_with fail
    (with_reducible refine (S33.out).mono ?_); rintro e w4 ⟨A4, c4, rfl, hc4, hr4, hb4⟩
    have KQ6 := Ho.mk (KQ5.out.bel hb4)
    have KZ6 := Ho.mk (KZ5.out.bel hb4)
    have HB6 := Ho.mk (HB5.out.trans hb4)
    have u1 := KQ6.out.cell (i := 0) rfl
    have HR4 := Ho.mk hr4
    clear hb4 hr4
    go_wp2_with fail
    (with_reducible refine (S4.out _ _ _ HB6.out HR4.out hc4).mono ?_); rintro e w5 ⟨A5, c5, rfl, hc5, hr5, hb5⟩
    have KB2 := Ho.mk (KZ6.out.bel hb5)
    have HB7 := Ho.mk (HB6.out.trans hb5)
    have HR5 := Ho.mk hr5
    clear u1 hr5 hb5
    obtain ⟨y0, y1, y2⟩ := KB2.out.c3
    have z0 := KB2.out.free 0
    have z1 := KB2.out.free 1
    have z2 := KB2.out.free 2
    go_wp2
    exact gives_end (fn := Tryz.f194) rfl rfl HB7.out (by omega) KB2.out HR5.out hc5
  · have HVV : Ho (sc n0 (M - N) em = r) := ⟨by rw [sc_sub _ _ _ _ (by omega), HU2.out, ← hs', HV2.out]; exact HRR.out⟩
    have hl := Ho.mk (Nat.le_trans (digs_len_mono (Nat.sub_le M N)) hM)
    have S2 := Ho.mk (N5.sub_calls B0 B1 d0 d1 M N _ HR0.out HB0.out HR1.out HB1.out (by omega) (by omega))
    have S4 := Ho.mk (fun (A : Option Addr) (c : Nat) (W : World) (gb : Bel w W) (g : Rd W A (digs (M - N))) (hc : (digs (M - N)).length ≤ c) => make_calls A c (M - N) n0 em W (TT.out.bel gb) g hc (Nat.le_trans hl.out (by omega)) (by omega) (by omega))
    rw [HVV.out] at S4
    clear HU2 HV2 HRR HVV hM hN hMN hs hs' hl
    generalize M - N = MN at *
    go_wp2_with fail
    (with_reducible refine (S2.out).mono ?_); rintro e w4 ⟨A4, c4, rfl, hc4, hr4, hb4⟩
    have KP6 := Ho.mk (KP4.out.bel hb4)
    have KZ6 := Ho.mk (KZ4.out.bel hb4)
    have HB6 := Ho.mk (HB4.out.trans hb4)
    clear u0 u1
    have u0 := KP6.out.cell (i := 0) rfl
    have HR4 := Ho.mk hr4
    clear hb4 hr4
    go_wp2_with fail
    (with_reducible refine (S4.out _ _ _ HB6.out HR4.out hc4).mono ?_); rintro e w5 ⟨A5, c5, rfl, hc5, hr5, hb5⟩
    have KB2 := Ho.mk (KZ6.out.bel hb5)
    have HB7 := Ho.mk (HB6.out.trans hb5)
    have HR5 := Ho.mk hr5
    clear u0 hr5 hb5
    obtain ⟨y0, y1, y2⟩ := KB2.out.c3
    have z0 := KB2.out.free 0
    have z1 := KB2.out.free 1
    have z2 := KB2.out.free 2
    go_wp2
    exact gives_end (fn := Tryz.f194) rfl rfl HB7.out (by omega) KB2.out HR5.out hc5
end E4
namespace E5
open Go Go.RowKit Go.Proofs.YtalbgklfhabnkaaGreatDoor Ow Pl Dp Dt D3 E1 E2
theorem cmp_calls (A0 A1 : Option Addr) (c0 c1 : Nat) (u v : Int) (w : World) (T : Tab w) (h0 : Rd w A0 (digs (dm u))) (h1 : Rd w A1 (digs (dm v))) (hc0 : (digs (dm u)).length ≤ c0) (hc1 : (digs (dm v)).length ≤ c1)
    (hl0 : (digs (dm u)).length ≤ 1000) (hl1 : (digs (dm v)).length ≤ 1000) (b0 : -20000 ≤ de u) (b1 : de u ≤ 20000) (b2 : -20000 ≤ de v) (b3 : de v ≤ 20000) :
    Calls Tryz.prog 176 #[.agg #[.bool (dneg u), .slice A0 (digs (dm u)).length c0, .int .i64 (de u)], .agg #[.bool (dneg v), .slice A1 (digs (dm v)).length c1, .int .i64 (de v)]] w fun e w' => e = .returned (.int .i64 (cmpI u v)) ∧ Bel w w' := by
  have hm : dm (-v) = dm v := by unfold dm; rw [Int.natAbs_neg]
  have he : de (-v) = de v := by
    by_cases q : v = 0
    · subst q; rfl
    · exact (D1.flip_parts q).2.2
  have SF := Ho.mk (fun (W : World) (g : Bel w W) => flip_calls A1 c1 v W (T.bel g) (h1.bel g) hc1 (by omega) b2 b3)
  have SA := Ho.mk (fun (A : Option Addr) (c : Nat) (W : World) (g : Bel w W) (hr : Rd W A (digs (dm (-v)))) (hc : (digs (dm (-v))).length ≤ c) => E4.add_calls A0 A c0 c u (-v) W (T.bel g) (h0.bel g) hr hc0 hc hl0 (by rw [hm]; exact hl1) b0 b1 (by rw [he]; exact b2) (by rw [he]; exact b3))
  have SS := Ho.mk (fun (A : Option Addr) (c : Nat) (W : World) => sign_calls A c (u + -v) W)
  rw [sgn_sub] at SS
  clear hm he h0 h1 hc0 hc1 T hl0 hl1 b0 b1 b2 b3
  generalize cmpI u v = r at *
  generalize u + -v = s at *
  generalize -v = v' at *
  generalize dneg u = n0 at *
  generalize dneg v = n1 at *
  generalize digs (dm u) = l0 at *
  generalize digs (dm v) = l1 at *
  generalize de u = e0 at *
  generalize de v = e1 at *
  have HB := Ho.mk (((Bel.refl w).alloc (.cells #[.bool n0, .slice A0 l0.length c0, .int .i64 e0] 37)).alloc (.cells #[.bool n1, .slice A1 l1.length c1, .int .i64 e1] 37))
  have KA := Ho.mk ((Blk.new w [.bool n0, .slice A0 l0.length c0, .int .i64 e0] 37).old (.cells #[.bool n1, .slice A1 l1.length c1, .int .i64 e1] 37))
  have KC := Ho.mk (Blk.new (w.alloc (.cells #[.bool n0, .slice A0 l0.length c0, .int .i64 e0] 37)) [.bool n1, .slice A1 l1.length c1, .int .i64 e1] 37)
  rw [World.size_alloc] at KC
  go_enter Tryz.func176, Tryz.ntmps176
  go_wp2_with fail
  have hZ : ((w.alloc (.cells #[.bool n0, .slice A0 l0.length c0, .int .i64 e0] 37)).alloc (.cells #[.bool n1, .slice A1 l1.length c1, .int .i64 e1] 37)) = ((w.alloc (.cells #[.bool n0, .slice A0 l0.length c0, .int .i64 e0] 37)).alloc (.cells #[.bool n1, .slice A1 l1.length c1, .int .i64 e1] 37)) := rfl
  generalize ((w.alloc (.cells #[.bool n0, .slice A0 l0.length c0, .int .i64 e0] 37)).alloc (.cells #[.bool n1, .slice A1 l1.length c1, .int .i64 e1] 37)) = w0 at *
  clear hZ
  obtain ⟨y0a, y1a, y2a⟩ := KA.out.c3
  obtain ⟨y0b, y1b, y2b⟩ := KC.out.c3
  go_region_held3 (fun w' => w'.cell? ⟨w.heap.size, 0, none⟩ = some (.bool n0) ∧ w'.cell? ⟨w.heap.size, 1, none⟩ = some (.slice A0 l0.length c0) ∧ w'.cell? ⟨w.heap.size, 2, none⟩ = some (.int .i64 e0) ∧
      w'.cell? ⟨w.heap.size + 1, 0, none⟩ = some (.bool n1) ∧ w'.cell? ⟨w.heap.size + 1, 1, none⟩ = some (.slice A1 l1.length c1) ∧ w'.cell? ⟨w.heap.size + 1, 2, none⟩ = some (.int .i64 e1))
    (first
      | go_keep
      | (go_split_ands
         refine ⟨?_, ?_, ?_, ?_, ?_, ?_⟩ <;> (apply Bel.cell (by assumption); assumption))
      | (all_goals (go_split_ands; apply Bel.cell (by assumption); assumption)))
    (first
      | (go_at_call 173; (with_reducible refine (SF.out _ HB.out.drew).mono ?_); rintro e w1 ⟨A3, c3, rfl, hc3, hr3, hb3⟩)
      | (go_at_call 194; (with_reducible refine (SA.out _ _ _ (HB.out.drew.trans hb3) hr3 hc3).mono ?_); rintro e w2 ⟨A4, c4, rfl, hc4, hr4, hb4⟩)
      | (go_at_call 195; (with_reducible refine (SS.out _ _ _).mono ?_); rintro e w3 ⟨rfl, hb5⟩))
  have HB5 := Ho.mk (HB.out.drew.trans (hb3.trans (hb4.trans hb5)))
  clear hb3 hb4 hb5 hr3 hr4
  go_wp2
  go_ret
  exact ⟨rfl, HB5.out⟩
end E5
namespace D9
open Go Go.RowKit Go.Proofs.YtalbgklfhabnkaaGreatDoor Ow Pl Dp D1 D2 D3
theorem len_add1 {x y a : Nat} (h : (digs x).length ≤ a) (k : (digs y).length ≤ a) : (digs (x + y)).length ≤ a + 1 := by
 apply digs_len_le.2
 have h1 := digs_len_le.1 h
 have h2 := digs_len_le.1 k
 rw [Nat.pow_succ]
 generalize 16777216 ^ a = z at *
 omega
end D9
namespace E6
open Go Go.RowKit Go.Proofs.YtalbgklfhabnkaaGreatDoor Ow Pl Dp Dt D3 E1 E2 D9
theorem more_calls (A : Option Addr) (c y b0 b1 : Nat) (up n : Bool) (s e : Value) (w : World) (h : Rd w A (digs y)) (hc : (digs y).length ≤ c) (hq : (digs y).length ≤ 1000)
  (K0 : Blk w b0 37 [.bool n, s, e]) (K1 : Blk w b1 4 [.bool up]) :
  Calls Tryz.prog 227 #[.slice A (digs y).length c, .pointer (some ⟨b1, 0, none⟩), .pointer (some ⟨b0, 0, none⟩)] w (Row w (y + (if up = n then 0 else 1))) := by
 have x0 := K0.cell (i := 0) rfl
 have x1 := K1.cell (i := 0) rfl
 by_cases hup : up = n
 ·rw [if_pos hup, Nat.add_zero]
  have hne : (up == n) = true := by rw [hup]; simp
  have H := Ho.mk h
  have HC := Ho.mk hc
  clear hup h hc K0 K1
  go_enter Tryz.func227, Tryz.ntmps227
  go_wp2
  go_ret
  exact ⟨A, c, rfl, HC.out, H.out, Bel.refl _⟩
 ·rw [if_neg hup]
  have hne : (up == n) = false := beq_eq_false_iff_ne.mpr hup
  have OF := Ho.mk (fun (W : World) => R2.natOf_calls 1 1 W rfl (by decide))
  have AD := Ho.mk (fun (A1 : Option Addr) (c1 : Nat) (W : World) (g : Bel w W) (g1 : Rd W A1 (digs 1)) (hc1 : (digs 1).length ≤ c1) => N4.add_calls A A1 c c1 y 1 W (h.bel g) hc g1 hc1 (by omega) (by rw [digs_one]; decide))
  clear hup h hc K0 K1
  generalize digs y = l at *
  generalize y + 1 = y1 at *
  go_enter Tryz.func227, Tryz.ntmps227
  go_wp2_with fail
  (with_reducible refine (OF.out _).mono ?_); rintro r w1 ⟨A1, c1, rfl, hc1, hr1, hb1⟩
  go_wp2_with fail
  (with_reducible refine (AD.out _ _ _ hb1 hr1 hc1).mono ?_); rintro r w2 ⟨A2, c2, rfl, hc2, hr2, hb2⟩
  have HB := Ho.mk (hb1.trans hb2)
  have HR := Ho.mk hr2
  clear hb1 hb2 hr1 hr2 x0 x1
  go_wp2
  go_ret
  exact ⟨A2, c2, rfl, hc2, HR.out, HB.out⟩
theorem cut_calls (A : Option Addr) (c n : Nat) (up : Bool) (v : Int) (w : World) (T : Tab w) (h : Rd w A (digs (dm v))) (hc : (digs (dm v)).length ≤ c) (hl : (digs (dm v)).length ≤ 1000) (b0 : -20000 ≤ de v) (b1 : de v ≤ 20000) (hn : n ≤ 20000) :
    Calls Tryz.prog 221 #[.agg #[.bool (dneg v), .slice A (digs (dm v)).length c, .int .i64 (de v)], .int .i64 (n : Int), .bool up] w (Gives w (cutV v n up)) := by
  have hbl : blen (dm v) ≤ 24000 := by have := D2.blen_len (dm v); omega
  have LN := Ho.mk (fun (W : World) (g : Bel w W) => N6.natLen_calls A c (dm v) W (h.bel g))
  have HB := Ho.mk ((((Bel.refl w).alloc (.cells #[.bool (dneg v), .slice A (digs (dm v)).length c, .int .i64 (de v)] 37)).alloc (.cells #[.bool up] 4)).alloc (.cells #[.bool false, .slice none 0 0, .int .i64 0] 37))
  have KA := Ho.mk (((Blk.new w [.bool (dneg v), .slice A (digs (dm v)).length c, .int .i64 (de v)] 37).old (.cells #[.bool up] 4)).old (.cells #[.bool false, .slice none 0 0, .int .i64 0] 37))
  have KU := Ho.mk ((Blk.new (w.alloc (.cells #[.bool (dneg v), .slice A (digs (dm v)).length c, .int .i64 (de v)] 37)) [.bool up] 4).old (.cells #[.bool false, .slice none 0 0, .int .i64 0] 37))
  have KZ := Ho.mk (Blk.new ((w.alloc (.cells #[.bool (dneg v), .slice A (digs (dm v)).length c, .int .i64 (de v)] 37)).alloc (.cells #[.bool up] 4)) [.bool false, .slice none 0 0, .int .i64 0] 37)
  rw [World.size_alloc] at KU
  rw [World.size_alloc, World.size_alloc] at KZ
  rcases Nat.lt_or_ge n (blen (dm v)) with hk | hk
  · obtain ⟨k, hkk⟩ : ∃ k, k = blen (dm v) - n := ⟨_, rfl⟩
    have HE : Ho (cutV v n up = sc (dneg v) (dm v / 2 ^ k + (if up = dneg v then 0 else 1)) (de v + k)) := ⟨by unfold cutV; rw [if_neg (by omega), ← hkk]; rfl⟩
    have hq : (digs (dm v / 2 ^ k)).length ≤ 1000 := Nat.le_trans (digs_len_mono (Nat.div_le_self _ _)) hl
    have hq2 : (digs (dm v / 2 ^ k + (if up = dneg v then 0 else 1))).length ≤ 1001 := len_add1 hq (by split <;> first | (rw [digs_zero]; decide) | (rw [digs_one]; decide))
    have SH := Ho.mk (fun (W : World) (g : Bel w W) => Na.shr_calls A c (dm v) k (k : Int) W (h.bel g) hc (by omega) (Int.toNat_natCast _).symm (by omega))
    have MO := Ho.mk (fun (A' : Option Addr) (c' : Nat) (W : World) (g : Rd W A' (digs (dm v / 2 ^ k))) (hc' : (digs (dm v / 2 ^ k)).length ≤ c') (K0 : Blk W w.heap.size 37 [.bool (dneg v), .slice A (digs (dm v)).length c, .int .i64 (de v)]) (K1 : Blk W (w.heap.size + 1) 4 [.bool up]) => more_calls A' c' (dm v / 2 ^ k) w.heap.size (w.heap.size + 1) up (dneg v) _ _ W g hc' hq K0 K1)
    have MK := Ho.mk (fun (A : Option Addr) (c : Nat) (W : World) (gb : Bel w W) (g : Rd W A (digs (dm v / 2 ^ k + (if up = dneg v then 0 else 1)))) (hc : (digs (dm v / 2 ^ k + (if up = dneg v then 0 else 1))).length ≤ c) => make_calls A c (dm v / 2 ^ k + (if up = dneg v then 0 else 1)) (dneg v) (de v + k) W (T.bel gb) g hc (by omega) (by omega) (by omega))
    have hsub : (blen (dm v) : Int) - (n : Int) = (k : Int) := by omega
    have hkpos : 0 < (k : Int) := by omega
    have hk5 : (k : Int) ≤ 24000 := by omega
    rw [HE.out]
    clear hkk hk HE h hc hl hq hq2 T
    generalize sc (dneg v) (dm v / 2 ^ k + (if up = dneg v then 0 else 1)) (de v + k) = r at *
    generalize dm v / 2 ^ k + (if up = dneg v then 0 else 1) = z at *
    generalize dm v / 2 ^ k = y at *
    generalize blen (dm v) = bl at *
    generalize digs (dm v) = l at *
    generalize dneg v = n0 at *
    generalize de v = e0 at *
    have q1 : IntKind.i64.wrap (e0 + (k : Int)) = e0 + (k : Int) := IntWalk.i64_in _ (by omega)
    go_enter Tryz.func221, Tryz.ntmps221
    go_wp2_with fail
    (with_reducible refine (LN.out _ HB.out).mono ?_); rintro e w1 ⟨rfl, rfl⟩
    go_wp2_with fail
    have hZ : (((w.alloc (.cells #[.bool n0, .slice A l.length c, .int .i64 e0] 37)).alloc (.cells #[.bool up] 4)).alloc (.cells #[.bool false, .slice none 0 0, .int .i64 0] 37)) = (((w.alloc (.cells #[.bool n0, .slice A l.length c, .int .i64 e0] 37)).alloc (.cells #[.bool up] 4)).alloc (.cells #[.bool false, .slice none 0 0, .int .i64 0] 37)) := rfl
    generalize (((w.alloc (.cells #[.bool n0, .slice A l.length c, .int .i64 e0] 37)).alloc (.cells #[.bool up] 4)).alloc (.cells #[.bool false, .slice none 0 0, .int .i64 0] 37)) = w0 at *
    clear hZ
    obtain ⟨y0a, y1a, y2a⟩ := KA.out.c3
    have nn := D4.ne2 w.heap.size
    have nn2 : ¬ (w.heap.size + 1 + 1 = w.heap.size) := fun q => D4.ne2 w.heap.size q.symm
    go_region_held3 (fun w' => w'.cell? ⟨w.heap.size, 0, none⟩ = some (.bool n0) ∧ w'.cell? ⟨w.heap.size, 1, none⟩ = some (.slice A l.length c) ∧ w'.cell? ⟨w.heap.size, 2, none⟩ = some (.int .i64 e0))
      (first
        | go_keep
        | (go_split_ands
           refine ⟨?_, ?_, ?_⟩ <;> (apply Bel.cell (by assumption); assumption))
        | (all_goals (go_split_ands; apply Bel.cell (by assumption); assumption)))
      (first
        | (go_at_call 168; (with_reducible refine (SH.out _ HB.out.drew).mono ?_); rintro e w2 ⟨A2, c2, rfl, hc2, hr2, hb2⟩)
        | ((with_reducible refine (MO.out _ _ _ hr2 hc2 (KA.out.bel ((Bel.refl _).drew.trans hb2)) (KU.out.bel ((Bel.refl _).drew.trans hb2))).mono ?_); rintro e w3 ⟨A3, c3, rfl, hc3, hr3, hb3⟩)
        | (go_at_call 193; (with_reducible refine (MK.out _ _ _ (HB.out.drew.trans (hb2.trans hb3)) hr3 hc3).mono ?_); rintro e w4 ⟨A4, c4, rfl, hc4, hr4, hb4⟩
           have KB2 := Ho.mk (KZ.out.bel ((Bel.refl _).drew.trans (hb2.trans (hb3.trans hb4))))
           have HB4 := Ho.mk (HB.out.trans ((Bel.refl _).drew.trans (hb2.trans (hb3.trans hb4))))
           obtain ⟨y0, y1, y2⟩ := KB2.out.c3
           have z0 := KB2.out.free 0
           have z1 := KB2.out.free 1
           have z2 := KB2.out.free 2))
    have HR4 := Ho.mk hr4
    clear hr4 hr3 hr2 hb2 hb3 hb4
    go_wp2
    exact gives_end (fn := Tryz.f221) rfl rfl HB4.out (by omega) KB2.out HR4.out hc4
  · have HE : Ho (cutV v n up = v) := ⟨by unfold cutV; rw [if_pos hk]⟩
    rw [HE.out]
    have hsub : (blen (dm v) : Int) ≤ (n : Int) := by omega
    have SH := Ho.mk (fun (W : World) (g : Bel w W) => shift_calls A c v 0 W (T.bel g) (h.bel g) hc (by omega) b0 b1 (by omega) (by omega))
    rw [Int.add_zero, sc_self] at SH
    clear HE hk h hc T hl
    generalize blen (dm v) = bl at *
    generalize digs (dm v) = l at *
    generalize dneg v = n0 at *
    generalize de v = e0 at *
    go_enter Tryz.func221, Tryz.ntmps221
    go_wp2_with fail
    (with_reducible refine (LN.out _ HB.out).mono ?_); rintro e w1 ⟨rfl, rfl⟩
    go_wp2_with fail
    (with_reducible refine (SH.out _ HB.out).mono ?_); rintro e w2 ⟨A4, c4, rfl, hc4, hr4, hb4⟩
    have KB2 := Ho.mk (KZ.out.bel hb4)
    have HB4 := Ho.mk (HB.out.trans hb4)
    have HR4 := Ho.mk hr4
    clear hr4 hb4
    obtain ⟨y0, y1, y2⟩ := KB2.out.c3
    have z0 := KB2.out.free 0
    have z1 := KB2.out.free 1
    have z2 := KB2.out.free 2
    go_wp2
    exact gives_end (fn := Tryz.f221) rfl rfl HB4.out (by omega) KB2.out HR4.out hc4
end E6
namespace F1
open Go Go.RowKit Go.Proofs.YtalbgklfhabnkaaGreatDoor Ow Pl Dp Dt D3
structure Dv (w : World) (A : Option Addr) (c : Nat) (v : Int) (L U : Nat) : Prop where
 cap : (digs (dm v)).length ≤ c
 rd : Rd w A (digs (dm v))
 wd : Wd v L U
theorem Dv.bel {w w' : World} {A : Option Addr} {c : Nat} {v : Int} {L U : Nat} (h : Dv w A c v L U) (b : Bel w w') : Dv w' A c v L U := ⟨h.cap, h.rd.bel b, h.wd⟩
theorem Dv.mono {w : World} {A : Option Addr} {c : Nat} {v : Int} {L U L' U' : Nat} (h : Dv w A c v L U) (h1 : L ≤ L') (h2 : U ≤ U') : Dv w A c v L' U' := ⟨h.cap, h.rd, h.wd.mono h1 h2⟩
theorem Dv.eq {w : World} {A : Option Addr} {c : Nat} {v v' : Int} {L U : Nat} (h : Dv w A c v L U) (e : v = v') : Dv w A c v' L U := e ▸ h
theorem wd_len {v : Int} {L U : Nat} (h : Wd v L U) (hb : L + U ≤ 20000) : (digs (dm v)).length ≤ (L + U) / 24 + 1 := by
 apply digs_len_le.2
 rw [show (16777216 : Nat) = 2 ^ 24 from rfl, ← Nat.pow_mul]
 exact Nat.lt_of_lt_of_le (h.m_lt (by unfold K; omega)) (Nat.pow_le_pow_right (by decide) (by omega))
theorem Dv.len {w : World} {A : Option Addr} {c : Nat} {v : Int} {L U : Nat} (h : Dv w A c v L U) (hb : L + U ≤ 20000) : (digs (dm v)).length ≤ 1000 :=
 Nat.le_trans (wd_len h.wd hb) (by omega)
theorem Dv.e0 {w : World} {A : Option Addr} {c : Nat} {v : Int} {L U : Nat} (h : Dv w A c v L U) (hb : L + U ≤ 20000) : -20000 ≤ de v := by have := h.wd.e_ge; omega
theorem Dv.e1 {w : World} {A : Option Addr} {c : Nat} {v : Int} {L U : Nat} (h : Dv w A c v L U) (hb : L + U ≤ 20000) : de v ≤ 20000 := by have := h.wd.e_le; omega
def MakesD (w : World) (v : Int) (L U : Nat) (e : Ending) (w' : World) : Prop :=
 ∃ A c, e = .returned (.agg #[.bool (dneg v), .slice A (digs (dm v)).length c, .int .i64 (de v)]) ∧ Dv w' A c v L U ∧ Bel w w'
theorem makesD_of {w : World} {v v' : Int} {L U : Nat} (e : v = v') (hw : Wd v' L U) : ∀ r w', Gives w v r w' → MakesD w v' L U r w' := by
 subst e
 rintro r w' ⟨A, c, h1, h2, h3, h4⟩
 exact ⟨A, c, h1, ⟨h2, h3, hw⟩, h4⟩
def Tells (w : World) (v : Value) (e : Ending) (w' : World) : Prop := e = .returned v ∧ Bel w w'
theorem mulD_sc (u v : Int) {L U L' U' : Nat} (h : Wd u L U) (k : Wd v L' U') (hL : L + L' ≤ 20000) : sc (dneg u != dneg v) (dm u * dm v) (de u + de v) = mulD u v := by
 have h1 := h.e_ge
 have h2 := k.e_ge
 have := sc_mul (dneg u) (dneg v) (dm u) (dm v) (de u) (de v) (by unfold K; omega) (by unfold K; omega) (by unfold K; omega)
 rw [sc_self, sc_self] at this
 exact scale_inj (by rw [this, mulD_eq h k (by unfold K; omega)])
theorem wd_mulD {u v : Int} {L U L' U' : Nat} (h : Wd u L U) (k : Wd v L' U') (hL : L + L' ≤ 20000) : Wd (mulD u v) (L + L') (U + U') :=
 h.mul k (mulD_eq h k (by unfold K; omega)) (by unfold K; omega)
def shiftD (v k : Int) : Int := sc (dneg v) (dm v) (de v + k)
theorem sc_scale (n : Bool) (x : Nat) (e : Int) (m : Nat) (h : -(K : Int) ≤ e) : sc n x e * 2 ^ m = sc n x (e + m) := (sc_shift n x e m h).symm
theorem shiftD_eq (v k : Int) (m : Nat) (h1 : -(K : Int) ≤ de v + k) (h2 : 0 ≤ k + m) : shiftD v k * 2 ^ m = v * 2 ^ (k + m).toNat := by
 have h3 := de_ge (v := v)
 unfold shiftD
 rw [sc_scale _ _ _ _ h1]
 conv => rhs; rw [← sc_self v]
 rw [sc_scale _ _ _ _ h3]
 congr 1; omega
theorem wd_shiftD {v k : Int} {L U N : Nat} (h : Wd v L U) (h0 : -(N : Int) ≤ k) (h1 : k ≤ N) (hL : L + N ≤ 20000) : Wd (shiftD v k) (L + N) (U + N) := by
 have e := shiftD_eq v k N (by have := h.e_ge; unfold K; omega) (by omega)
 have h2 := (h.shl (k + N).toNat (by unfold K; omega))
 have h3 := h2.shr e (by unfold K; omega)
 refine ⟨h3.low, ?_⟩
 -- the upper end
 have h4 := h.up
 have e2 : (shiftD v k).natAbs * 2 ^ N = v.natAbs * 2 ^ (k + N).toNat := by
  have := congrArg Int.natAbs e
  rw [Int.natAbs_mul, Int.natAbs_mul, Int.natAbs_pow, Int.natAbs_pow] at this; exact this
 have h5 : v.natAbs * 2 ^ (k + N).toNat < 2 ^ (K + (U + N)) * 2 ^ N := by
  have := Nat.mul_lt_mul_of_pos_right h4 (Nat.two_pow_pos (k + N).toNat)
  refine Nat.lt_of_lt_of_le this ?_
  rw [← Nat.pow_add, ← Nat.pow_add]
  exact Nat.pow_le_pow_right (by decide) (by omega)
 rw [← e2] at h5
 exact Nat.lt_of_mul_lt_mul_right h5
theorem wd_ofD {n : Int} (h0 : -9223372036854775807 ≤ n) (h1 : n ≤ 9223372036854775807) : Wd (n * 2 ^ K) 0 64 := by
 refine wd_of (y := n) rfl ?_
 rw [Int.natAbs_mul, Int.natAbs_pow, show (2 : Int).natAbs = 2 from rfl, Nat.add_comm K, Nat.pow_add]
 exact Nat.mul_lt_mul_of_pos_right (by omega) (Nat.two_pow_pos K)
theorem ofD_sc (n : Int) : sc (decide (n < 0)) n.natAbs 0 = n * 2 ^ K := by
 unfold sc
 rw [show ((0 : Int) + K).toNat = K from by omega, Int.natCast_mul, Int.natCast_pow]
 by_cases h : n < 0
 ·rw [decide_eq_true h, if_pos rfl, ← Int.mul_assoc]; congr 1; omega
 ·rw [decide_eq_false h, if_neg (by decide), ← Int.mul_assoc]; congr 1; omega
section
variable {w : World} {A B : Option Addr} {c d : Nat} {u v : Int} {L U L' U' : Nat}
theorem dAdd (T : Tab w) (h : Dv w A c u L U) (k : Dv w B d v L' U') (h1 : L + U ≤ 20000) (h2 : L' + U' ≤ 20000) :
  Calls Tryz.prog 194 #[.agg #[.bool (dneg u), .slice A (digs (dm u)).length c, .int .i64 (de u)], .agg #[.bool (dneg v), .slice B (digs (dm v)).length d, .int .i64 (de v)]] w (MakesD w (u + v) (L + L') (U + U' + 1)) :=
 (E4.add_calls A B c d u v w T h.rd k.rd h.cap k.cap (h.len h1) (k.len h2) (h.e0 h1) (h.e1 h1) (k.e0 h2) (k.e1 h2)).mono (makesD_of rfl (h.wd.add k.wd (by unfold K; omega)))
theorem dMul (T : Tab w) (h : Dv w A c u L U) (k : Dv w B d v L' U') (h1 : L + U ≤ 10000) (h2 : L' + U' ≤ 10000) :
  Calls Tryz.prog 229 #[.agg #[.bool (dneg u), .slice A (digs (dm u)).length c, .int .i64 (de u)], .agg #[.bool (dneg v), .slice B (digs (dm v)).length d, .int .i64 (de v)]] w (MakesD w (mulD u v) (L + L') (U + U')) :=
 (E3.mul_calls A B c d u v w T h.rd k.rd (h.len (by omega)) (k.len (by omega)) (h.e0 (by omega)) (h.e1 (by omega)) (k.e0 (by omega)) (k.e1 (by omega))).mono (makesD_of (mulD_sc u v h.wd k.wd (by omega)) (wd_mulD h.wd k.wd (by omega)))
theorem dCmp (T : Tab w) (h : Dv w A c u L U) (k : Dv w B d v L' U') (h1 : L + U ≤ 20000) (h2 : L' + U' ≤ 20000) {r : Int} (hr : cmpI u v = r) :
  Calls Tryz.prog 176 #[.agg #[.bool (dneg u), .slice A (digs (dm u)).length c, .int .i64 (de u)], .agg #[.bool (dneg v), .slice B (digs (dm v)).length d, .int .i64 (de v)]] w (Tells w (.int .i64 r)) := by
 subst hr
 exact E5.cmp_calls A B c d u v w T h.rd k.rd h.cap k.cap (h.len h1) (k.len h2) (h.e0 h1) (h.e1 h1) (k.e0 h2) (k.e1 h2)
theorem dSign (h : Dv w A c u L U) {r : Int} (hr : sgn u = r) :
  Calls Tryz.prog 195 #[.agg #[.bool (dneg u), .slice A (digs (dm u)).length c, .int .i64 (de u)]] w (Tells w (.int .i64 r)) := by
 subst hr
 exact E2.sign_calls A c u w
theorem dFlip (T : Tab w) (h : Dv w A c u L U) (h1 : L + U ≤ 20000) :
  Calls Tryz.prog 173 #[.agg #[.bool (dneg u), .slice A (digs (dm u)).length c, .int .i64 (de u)]] w (MakesD w (-u) L U) :=
 (E2.flip_calls A c u w T h.rd h.cap (by have := h.len h1; omega) (h.e0 h1) (h.e1 h1)).mono (makesD_of rfl h.wd.neg)
theorem dShift (T : Tab w) (h : Dv w A c u L U) (k : Int) (N : Nat) (h1 : L + U ≤ 20000) (hk0 : -(N : Int) ≤ k) (hk1 : k ≤ N) (hN : L + N ≤ 20000) :
  Calls Tryz.prog 174 #[.agg #[.bool (dneg u), .slice A (digs (dm u)).length c, .int .i64 (de u)], .int .i64 k] w (MakesD w (shiftD u k) (L + N) (U + N)) :=
 (E2.shift_calls A c u k w T h.rd h.cap (by have := h.len h1; omega) (h.e0 h1) (h.e1 h1) (by omega) (by omega)).mono (makesD_of rfl (wd_shiftD h.wd hk0 hk1 (by omega)))
theorem dCut (T : Tab w) (h : Dv w A c u L U) (n : Nat) (up : Bool) (h1 : L + U ≤ 20000) (hn : n ≤ 20000) {nn : Int} (hnn : (n : Int) = nn) :
  Calls Tryz.prog 221 #[.agg #[.bool (dneg u), .slice A (digs (dm u)).length c, .int .i64 (de u)], .int .i64 nn, .bool up] w (MakesD w (cutV u n up) L (U + 1)) := by
 subst hnn
 exact (E6.cut_calls A c n up u w T h.rd h.cap (h.len h1) (h.e0 h1) (h.e1 h1) hn).mono (makesD_of rfl (h.wd.cut n up (by unfold K; omega)))
theorem dOf (T : Tab w) (n : Int) (h0 : -9223372036854775807 ≤ n) (h1 : n ≤ 9223372036854775807) : Calls Tryz.prog 177 #[.int .i64 n] w (MakesD w (n * 2 ^ K) 0 64) :=
 (E2.of_calls n w T h0 h1).mono (makesD_of (ofD_sc n) (wd_ofD h0 h1))
structure Nv (w : World) (A : Option Addr) (c : Nat) (x b : Nat) : Prop where
 cap : (digs x).length ≤ c
 rd : Rd w A (digs x)
 lt : x < 2 ^ b
theorem Nv.bel {w w' : World} {A : Option Addr} {c : Nat} {x b : Nat} (h : Nv w A c x b) (g : Bel w w') : Nv w' A c x b := ⟨h.cap, h.rd.bel g, h.lt⟩
theorem Nv.len {w : World} {A : Option Addr} {c : Nat} {x b : Nat} (h : Nv w A c x b) : (digs x).length ≤ b / 24 + 1 := by
 apply digs_len_le.2
 rw [show (16777216 : Nat) = 2 ^ 24 from rfl, ← Nat.pow_mul]
 exact Nat.lt_of_lt_of_le h.lt (Nat.pow_le_pow_right (by decide) (by omega))
theorem dMake (T : Tab w) {x b : Nat} (h : Nv w A c x b) (n : Bool) (e : Int) (hb : b ≤ 20000) (hL : L ≤ 20000) (e0 : -(L : Int) ≤ e) (e1 : e + b ≤ U) (hU : U ≤ 20000) : Calls Tryz.prog 193 #[.bool n, .slice A (digs x).length c, .int .i64 e] w (MakesD w (sc n x e) L U) :=
 (E1.make_calls A c x n e w T h.rd h.cap (by have := h.len; omega) (by omega) (by omega)).mono (makesD_of rfl (wd_sc n h.lt e0 e1 (by unfold K; omega)))
theorem Dv.nv {w : World} {A : Option Addr} {c : Nat} {v : Int} {L U : Nat} (h : Dv w A c v L U) (hb : L + U ≤ 20000) : Nv w A c (dm v) (L + U) := ⟨h.cap, h.rd, h.wd.m_lt (by unfold K; omega)⟩
theorem same3_num (u v : Int) : D1.same3 (dneg u) (dneg v) (de u) (de v) (digs (dm u)) (digs (dm v)) = decide (u = v) := by
 unfold D1.same3
 by_cases h : u = v
 ·subst h; simp [R2.sameB_self]
 ·rw [decide_eq_false h]
  apply Bool.eq_false_iff.2
  intro q
  simp only [Bool.and_eq_true, decide_eq_true_eq] at q
  obtain ⟨q1, q2, q3⟩ := q
  have q4 : digs (dm u) = digs (dm v) := by simpa [R2.sameB] using q3
  exact h (d_inj q1 (digs_inj q4) q2)
theorem same (h : Dv w A c u L U) (k : Dv w B d v L' U') (e : u = v) :
  Calls Tryz.prog 27 #[.agg #[.bool (dneg u), .slice A (digs (dm u)).length c, .int .i64 (de u)], .agg #[.bool (dneg v), .slice B (digs (dm v)).length d, .int .i64 (de v)]] w (Tells w (.bool true)) := by
 have := D1.same_calls (dneg u) (dneg v) (de u) (de v) A B c d (digs (dm u)) (digs (dm v)) w h.rd k.rd
 rwa [same3_num, decide_eq_true e] at this
theorem Dv.zero (w : World) (d : Nat) : Dv w none d 0 0 0 := ⟨by rw [show dm 0 = 0 from odd_zero, digs_zero]; exact Nat.zero_le _, by rw [show dm 0 = 0 from odd_zero, digs_zero]; exact Rd.nil _ _, Wd.zero _ _⟩
end
end F1
end Go.Proofs.YtalbgklfhabnkaaGreatDoor
