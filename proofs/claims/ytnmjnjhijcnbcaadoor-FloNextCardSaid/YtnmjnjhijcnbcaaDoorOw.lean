/-
  Own words for the walks of this seat: what reads where, what is kept.
-/
import Derived.Below
import Derived.WalkKit
import Derived.KernelRfl
import Derived.WalkLawsBesides
import Derived.Laws.EntriesVeiled
import Derived.RowKit3
import Derived.Deep.Draws
import Derived.Deep.OwnRows
import Derived.Laws.CopyOwn
import Derived.Laws.OwnMore
import Derived.Laws.MakeOwn
namespace Go.Proofs.YtnmjnjhijcnbcaaDoor.Ow
open Go.RowKit

/-- Nothing that was there has changed. -/
structure Bel (w w' : World) : Prop where
  out : Below w.heap.size w w'
theorem Bel.refl (w : World) : Bel w w := ⟨Below.refl _ _⟩
theorem Bel.size {a b : World} (h : Bel a b) : a.heap.size ≤ b.heap.size := h.out.size
theorem Bel.trans {a b c : World} (h : Bel a b) (k : Bel b c) : Bel a c := ⟨h.out.trans (k.out.mono h.out.size)⟩
theorem Bel.drew {a b : World} (h : Bel a b) : Bel a b.drew := ⟨h.out.drew⟩
theorem Bel.drewN {a b : World} (h : Bel a b) (n : Nat) : Bel a (b.drewN n) := h.trans ⟨⟨rfl, rfl, rfl, Nat.le_refl _, fun _ _ => rfl⟩⟩
theorem Bel.alloc {a b : World} (h : Bel a b) (o : Obj) : Bel a (b.alloc o) := ⟨h.out.alloc h.out.size o⟩
theorem Bel.block {a b : World} (h : Bel a b) {k : Nat} (hk : k < a.heap.size) : b.heap[k]? = a.heap[k]? := h.out.block k hk
theorem Bel.cell {a b : World} (h : Bel a b) {p : Addr} {v : Value} (hc : a.cell? p = some v) : b.cell? p = some v :=
  (h.out.cell (World.block_lt_of_cell? a p hc)).trans hc
/-- Below a block. -/
theorem below_of_bel {B : Nat} {a b c : World} (h : Below B a b) (k : Bel b c) (hB : B ≤ b.heap.size) : Below B a c := h.trans (k.out.mono hB)

/-- The number at a place; 0 behind all. (A plain definition: the walk's simp does not look into it.) -/
def nth (l : List Int) (i : Nat) : Int := l.getD i 0
theorem nth_lt {l : List Int} {i : Nat} (h : i < l.length) : nth l i = l[i] := by simp [nth, h]
theorem nth_ge {l : List Int} {i : Nat} (h : l.length ≤ i) : nth l i = 0 := by simp [nth, h]
/-- Whole numbers that lie in a row. -/
structure Rd (w : World) (A : Option Addr) (l : List Int) : Prop where
  max : l.length ≤ 35184372088831
  cell : ∀ j, j < l.length → ∃ ad, A = some ad ∧ w.cell? (ad.add j) = some (.int .i64 (nth l j))
theorem Rd.nil (w : World) (A : Option Addr) : Rd w A [] := ⟨by simp, fun j hj => by simp at hj⟩
theorem Rd.bel {w w' : World} {A : Option Addr} {l : List Int} (h : Rd w A l) (hb : Bel w w') : Rd w' A l :=
  ⟨h.max, fun j hj => by obtain ⟨ad, e, hc⟩ := h.cell j hj; exact ⟨ad, e, hb.cell hc⟩⟩
theorem Rd.take {w : World} {A : Option Addr} {l : List Int} (h : Rd w A l) (n : Nat) : Rd w A (l.take n) :=
  ⟨by have := h.max; simp; omega, fun j hj => by
    have hj' : j < l.length := by simp at hj; omega
    have hjn : j < n := by simp at hj; omega
    obtain ⟨ad, e, hc⟩ := h.cell j hj'
    refine ⟨ad, e, ?_⟩
    rw [hc]; simp [nth, List.getD_eq_getElem?_getD, hjn]⟩
theorem Rd.at_ {w : World} {A : Option Addr} {l : List Int} (h : Rd w A l) (i : Int) (h0 : 0 ≤ i) (h1 : i < l.length) :
    ∃ ad, A = some ad ∧ w.cell? (ad.add i.toNat) = some (.int .i64 (nth l i.toNat)) := h.cell i.toNat (by omega)

theorem add_block (a : Addr) (n : Nat) : (a.add n).block = a.block := by unfold Addr.add; split <;> rfl
theorem add_add (a : Addr) (m n : Nat) : (a.add m).add n = a.add (m + n) := by
  unfold Addr.add
  by_cases h1 : m = 0
  · subst h1; simp
  · by_cases h2 : n = 0
    · subst h2; simp
    · simp [h1, h2, Nat.add_assoc]
theorem Rd.drop {w : World} {ad : Addr} {l : List Int} (h : Rd w (some ad) l) (n : Nat) : Rd w (some (ad.add n)) (l.drop n) :=
  ⟨by have := h.max; rw [List.length_drop]; omega, fun j hj => by
    rw [List.length_drop] at hj
    obtain ⟨ad', e, hc⟩ := h.cell (n + j) (by omega)
    cases e
    exact ⟨_, rfl, by rw [add_add, hc]; simp [nth]⟩⟩
/-- .. in blocks below one of the call's own. -/
structure RdB (B : Nat) (w : World) (A : Option Addr) (l : List Int) : Prop where
  rd : Rd w A l
  lt : ∀ ad, A = some ad → 0 < l.length → ad.block < B
theorem Rd.rdB {w : World} {A : Option Addr} {l : List Int} (h : Rd w A l) : RdB w.heap.size w A l :=
  ⟨h, fun ad e hl => by
    obtain ⟨ad', e', hc⟩ := h.cell 0 hl
    have := World.block_lt_of_cell? w _ hc
    rw [add_block] at this
    rw [e] at e'; cases e'; exact this⟩
theorem RdB.below {B : Nat} {w w' : World} {A : Option Addr} {l : List Int} (h : RdB B w A l) (hb : Below B w w') : Rd w' A l :=
  ⟨h.rd.max, fun j hj => by
    obtain ⟨ad, e, hc⟩ := h.rd.cell j hj
    exact ⟨ad, e, (hb.cell (by rw [add_block]; exact h.lt ad e (by omega))).trans hc⟩⟩
theorem RdB.bel {B : Nat} {w w' : World} {A : Option Addr} {l : List Int} (h : RdB B w A l) (hb : Bel w w') : RdB B w' A l := ⟨h.rd.bel hb, h.lt⟩

/-- A fact that the walk does not look into. -/
structure Ho (p : Prop) : Prop where
  out : p

/-- A block of the call's own: what its cells hold. -/
structure Blk (w : World) (b : Nat) (t : TypeId) (cs : List Value) : Prop where
  out : w.heap[b]? = some (.cells cs.toArray t (0, 0))
theorem Blk.lt {w : World} {b : Nat} {t : TypeId} {cs : List Value} (h : Blk w b t cs) : b < w.heap.size := by
  rcases Nat.lt_or_ge b w.heap.size with h' | h'
  · exact h'
  · have := h.out; simp [Array.getElem?_eq_none h'] at this
theorem Blk.cell {w : World} {b : Nat} {t : TypeId} {cs : List Value} (h : Blk w b t cs) {i : Nat} {v : Value} (hv : cs[i]? = some v) : w.cell? ⟨b, i, none⟩ = some v := by
  simp [World.cell?, h.out, hv]
theorem Blk.free {w : World} {b : Nat} {t : TypeId} {cs : List Value} (h : Blk w b t cs) (i : Nat) : w.frozen? ⟨b, i, none⟩ = false := by
  simp [World.frozen?, h.out]
theorem Blk.bel {w w' : World} {b : Nat} {t : TypeId} {cs : List Value} (h : Blk w b t cs) (hb : Bel w w') : Blk w' b t cs := ⟨by rw [hb.block h.lt]; exact h.out⟩
theorem Blk.drew {w : World} {b : Nat} {t : TypeId} {cs : List Value} (h : Blk w b t cs) : Blk w.drew b t cs := ⟨h.out⟩
theorem Blk.drewN {w : World} {b : Nat} {t : TypeId} {cs : List Value} (h : Blk w b t cs) (n : Nat) : Blk (w.drewN n) b t cs := ⟨h.out⟩
theorem Blk.new (w : World) (cs : List Value) (t : TypeId) : Blk (w.alloc (.cells cs.toArray t)) w.heap.size t cs := ⟨by
  show (w.heap.push _)[w.heap.size]? = _
  simp⟩
theorem Blk.old {w : World} {b : Nat} {t : TypeId} {cs : List Value} (h : Blk w b t cs) (o : Obj) : Blk (w.alloc o) b t cs := h.bel ((Bel.refl w).alloc o)
theorem Blk.set {w : World} {b : Nat} {t : TypeId} {cs : List Value} (h : Blk w b t cs) (i : Nat) (v : Value) : Blk (w.setCell ⟨b, i, none⟩ v) b t (cs.set i v) := ⟨by
  have hlt := h.lt
  have h' : w.heap[b] = .cells cs.toArray t (0, 0) := by have := h.out; rw [Array.getElem?_eq_getElem hlt] at this; exact Option.some.inj this
  show (w.heap.modify b _)[b]? = _
  rw [Array.getElem?_eq_getElem (by simpa using hlt), Array.getElem_modify_self, h']
  simp⟩
theorem Blk.far {w : World} {b : Nat} {t : TypeId} {cs : List Value} (h : Blk w b t cs) {p : Addr} (hp : b ≠ p.block) (v : Value) : Blk (w.setCell p v) b t cs := ⟨by
  rw [Below.heap_setCell w p v b hp]; exact h.out⟩
theorem Blk.below {B : Nat} {w w' : World} {b : Nat} {t : TypeId} {cs : List Value} (h : Blk w b t cs) (hb : Below B w w') (hB : b < B) : Blk w' b t cs := ⟨by rw [hb.block b hB]; exact h.out⟩

/-- 'make([]T, n)' of elements of one cell. -/
theorem wpList_mk {P : Program} (w : World) {ops : Array Oper} {rest : List Oper} {o : Oper} {a : Act} {Q : Exit → Act → World → Prop}
    (hg : o.guard = none) (l c : Operand) (t : TypeId) (hop : o.op = Op.makeSlice t l c)
    (e : TypeId) (z : Value) (bytes : Nat) (ht : P.underlying t = some (.slice e)) (hinfo : (P.info? e).map (fun i => (i.zero, i.size, i.bytes)) = some (some z, 1, bytes)) (hz1 : z.cells = #[z])
    (n : Nat) (hl : a.eval l = .int .i64 (n : Int)) (hc : a.eval c = .int .i64 (n : Int)) (hbytes : bytes * n ≤ 281474976710656) (h63 : n ≤ 9223372036854775807)
    (hK : ∀ w', Blk w' w.heap.size e (List.replicate n z) → Bel w w' → w'.heap.size = w.heap.size + 1 → wpList P ops Q rest (a.put o.dst (.slice (some ⟨w.heap.size, 0, none⟩) n n)) w') :
    wpList P ops Q (o :: rest) a w := by
  obtain ⟨i, hi, hzz⟩ := Option.map_eq_some_iff.1 hinfo
  simp only [Prod.mk.injEq] at hzz
  obtain ⟨hz, hs, hb⟩ := hzz
  refine wpList_make_row w hg l c t hop e i z ht hi hz hs hz1 .i64 .i64 n hl hc (by rw [hb]; exact hbytes) h63 ?_
  have e1 : madeCells #[z] n = (List.replicate n z).toArray := by rw [← toList_madeCells_one]
  rw [e1]
  exact hK _ (Blk.new _ _ _) ((Bel.refl w).alloc _) (by simp)
/-- Whole numbers in a block of the call's own. -/
def ints (l : List Int) : List Value := l.map (.int .i64)
theorem ints_len (l : List Int) : (ints l).length = l.length := by simp [ints]
theorem ints_at (l : List Int) {i : Nat} (h : i < l.length) : (ints l)[i]? = some (.int .i64 (nth l i)) := by simp [ints, nth, h]
theorem ints_set (l : List Int) (i : Nat) (v : Int) : (ints l).set i (.int .i64 v) = ints (l.set i v) := by simp [ints, List.map_set]
theorem ints_rep (n : Nat) : List.replicate n (.int .i64 0) = ints (List.replicate n 0) := by simp [ints]
theorem Blk.rd {w : World} {b : Nat} {t : TypeId} {l : List Int} (h : Blk w b t (ints l)) (hm : l.length ≤ 35184372088831) : Rd w (some ⟨b, 0, none⟩) l :=
  ⟨hm, fun j hj => ⟨_, rfl, by
    have e : (⟨b, 0, none⟩ : Addr).add j = ⟨b, j, none⟩ := by unfold Addr.add; split <;> simp_all
    rw [e]; exact h.cell (ints_at l hj)⟩⟩
/-- A row of the call's own that may grow: its cells. -/
structure Own (w : World) (B e sz : Nat) (v : Value) (n : Nat) (cs : List Value) : Prop where
  out : w.ownsRow B e sz v n cs
theorem Own.nil (w : World) (B e sz : Nat) : Own w B e sz (.slice none 0 0) 0 [] := ⟨World.ownsRow_nil w B e sz⟩
theorem Own.bel {w w' : World} {B e sz : Nat} {v : Value} {n : Nat} {cs : List Value} (h : Own w B e sz v n cs) (hb : Bel w w') : Own w' B e sz v n cs :=
  ⟨h.out.kept (row := none) ⟨hb.out.os, hb.out.tape, hb.out.output, hb.out.size, fun i hi _ => hb.out.block i hi⟩ (by cases v.ownBlock <;> simp)⟩
theorem Own.drew {w : World} {B e sz : Nat} {v : Value} {n : Nat} {cs : List Value} (h : Own w B e sz v n cs) : Own w.drew B e sz v n cs := h.bel (Bel.refl w).drew
theorem Own.far {w : World} {B e sz : Nat} {v : Value} {n : Nat} {cs : List Value} (h : Own w B e sz v n cs) {p : Addr} (hp : v.ownBlock ≠ some p.block) (u : Value) : Own (w.setCell p u) B e sz v n cs :=
  ⟨h.out.kept (row := some p.block) ⟨rfl, rfl, rfl, by simp [World.setCell], fun i hi hne => Below.heap_setCell w p u i (fun e => hne (by rw [e]))⟩ (by
    cases hv : v.ownBlock with
    | none => exact .inl rfl
    | some k => exact .inr (by rw [← hv]; exact hp))⟩
theorem Own.slice {w : World} {B e sz : Nat} {v : Value} {n : Nat} {cs : List Value} (h : Own w B e sz v n cs) : ∃ A c, v = .slice A n c ∧ n ≤ c := by
  rcases h.out.2 with ⟨rfl, rfl⟩ | ⟨g, cap, cur, rfl, _, _, h1, _⟩
  · exact ⟨_, _, rfl, Nat.le_refl _⟩
  · exact ⟨_, _, rfl, h1⟩
theorem Own.rd {w : World} {B e : Nat} {v : Value} {l : List Int} (h : Own w B e 1 v l.length (ints l)) (hm : l.length ≤ 35184372088831) : ∃ A c, v = .slice A l.length c ∧ l.length ≤ c ∧ Rd w A l := by
  rcases h.out.2 with ⟨rfl, hn⟩ | ⟨g, cap, cur, rfl, _, _, h1, _⟩
  · have : l = [] := List.length_eq_zero_iff.1 hn
    subst this
    exact ⟨_, _, rfl, Nat.le_refl _, Rd.nil _ _⟩
  · exact ⟨_, _, rfl, h1, hm, fun j hj => ⟨_, rfl, h.out.cells (g := g) rfl j _ (ints_at l hj)⟩⟩
theorem Own.form {w : World} {B e : Nat} {v : Value} {n : Nat} {cs : List Value} (h : Own w B e 1 v n cs) (hn : 0 < n) : ∃ g cap, v = .slice (some ⟨g, 0, none⟩) n cap ∧ n ≤ cap ∧ B ≤ g ∧ g < w.heap.size := by
  rcases h.out.2 with ⟨rfl, h0⟩ | ⟨g, cap, cur, rfl, hg, hb, h1, _⟩
  · omega
  · exact ⟨g, cap, rfl, h1, hg, (Array.getElem?_eq_some_iff.1 hb).1⟩
theorem Own.cell {w : World} {B e g cap n : Nat} {cs : List Value} (h : Own w B e 1 (.slice (some ⟨g, 0, none⟩) n cap) n cs) {j : Nat} {u : Value} (hj : cs[j]? = some u) : w.cell? ⟨g, j, none⟩ = some u := by
  have hl : j < n * 1 := by
    have := h.out.1
    rcases Nat.lt_or_ge j cs.length with h' | h'
    · omega
    · rw [List.getElem?_eq_none h'] at hj; cases hj
  rw [h.out.cellAt j hl, hj]
theorem Own.free {w : World} {B e g cap n : Nat} {cs : List Value} (h : Own w B e 1 (.slice (some ⟨g, 0, none⟩) n cap) n cs) (j : Nat) : w.frozen? ⟨g, j, none⟩ = false := h.out.frozenAt j
theorem Own.set {w : World} {B e g cap n : Nat} {cs : List Value} (h : Own w B e 1 (.slice (some ⟨g, 0, none⟩) n cap) n cs) (j : Nat) (u : Value) : Own (w.setCell ⟨g, j, none⟩ u) B e 1 (.slice (some ⟨g, 0, none⟩) n cap) n (cs.set j u) := ⟨(h.out.stored j u).1⟩
/-- 'append(s, x)' of one element of one cell. -/
theorem wpList_app {P : Program} (w : World) {ops : Array Oper} {rest : List Oper} {o : Oper} {a : Act} {Q : Exit → Act → World → Prop} (hgd : o.guard = none) (s x : Operand) (t : TypeId)
    (ho : o.op = .call { callee := .builtin .append, args := #[s, x], argTypes := #[t, t] })
    (B e : Nat) (z : Value) (bytes : Nat) (ht : P.underlying t = some (.slice e)) (hinfo : (P.info? e).map (fun i => (i.zero, i.size, i.bytes)) = some (some z, 1, bytes)) (hz1 : z.cells = #[z])
    (v : Value) (n : Nat) (cs : List Value) (u : Value) (hs : a.eval s = v) (hown : Own w B e 1 v n cs) (hx : a.eval x = .slice (some ⟨w.heap.size, 0, none⟩) 1 1) (hu : u.oneCell' = true)
    (h63 : n < 1000000000000) (hbytes : bytes ≤ 100) (hB : B ≤ w.heap.size)
    (hK : ∀ v' w', Own w' B e 1 v' (n + 1) (cs ++ [u]) → Below B w w' → wpList P ops Q rest (a.put o.dst v') w') :
    wpList P ops Q (o :: rest) a (w.alloc (.cells #[u] e)) := by
  obtain ⟨i, hi, hzz⟩ := Option.map_eq_some_iff.1 hinfo
  simp only [Prod.mk.injEq] at hzz
  obtain ⟨hz, hsz, hb⟩ := hzz
  refine wpList_append_own _ hgd s x t ho B e i z 1 bytes ht hi hz hsz hb (by rw [hz1]; rfl) (by decide) v n cs hs (hown.out.alloc _) ⟨w.heap.size, 0, none⟩ 1 1 [u] hx rfl ?_ ?_ ?_ ?_ ?_ ?_
  · intro j u' hj
    cases j with
    | zero => simp at hj; subst hj; simp [Addr.add]
    | succ j => simp at hj
  · intro u' hu'; simp at hu'; subst hu'; exact hu
  · simp only [maxLen]; omega
  · have : (n + 1) * bytes ≤ 1000000000000 * 100 := Nat.mul_le_mul (by omega) hbytes
    omega
  · simp; omega
  · intro v' w' h1 h2 _
    refine hK v' w' ⟨h1⟩ ?_
    have hA : Below B w (w.alloc (.cells #[u] e)) := (Below.refl B w).alloc hB _
    refine hA.grown h2 (by simp; omega) (fun k hk => ?_)
    rcases hown.out.2 with ⟨rfl, _⟩ | ⟨g, cap, cur, rfl, hg, _⟩
    · simp [Value.ownBlock] at hk
    · simp [Value.ownBlock] at hk; omega
/-- 'append(v, s...)' of elements of one cell that lie elsewhere. -/
theorem wpList_apps {P : Program} (w : World) {ops : Array Oper} {rest : List Oper} {o : Oper} {a : Act} {Q : Exit → Act → World → Prop} (hgd : o.guard = none) (s x : Operand) (t : TypeId)
    (ho : o.op = .call { callee := .builtin .append, args := #[s, x], argTypes := #[t, t] })
    (B e : Nat) (z : Value) (bytes : Nat) (ht : P.underlying t = some (.slice e)) (hinfo : (P.info? e).map (fun i => (i.zero, i.size, i.bytes)) = some (some z, 1, bytes)) (hz1 : z.cells = #[z])
    (v : Value) (n : Nat) (cs : List Value) (hs : a.eval s = v) (hown : Own w B e 1 v n cs) (ad : Addr) (m c : Nat) (news : List Value) (hx : a.eval x = .slice (some ad) m c) (hm : news.length = m)
    (hnews : ∀ j u, news[j]? = some u → w.cell? (ad.add j) = some u) (h1 : ∀ u ∈ news, u.oneCell' = true)
    (h63 : n + m ≤ 1000000000000) (hbytes : bytes ≤ 100) (hB : B ≤ w.heap.size)
    (hK : ∀ v' w', Own w' B e 1 v' (n + m) (cs ++ news) → Below B w w' → wpList P ops Q rest (a.put o.dst v') w') :
    wpList P ops Q (o :: rest) a w := by
  obtain ⟨i, hi, hzz⟩ := Option.map_eq_some_iff.1 hinfo
  simp only [Prod.mk.injEq] at hzz
  obtain ⟨hz, hsz, hb⟩ := hzz
  refine wpList_append_own _ hgd s x t ho B e i z 1 bytes ht hi hz hsz hb (by rw [hz1]; rfl) (by decide) v n cs hs hown.out ad m c news hx (by omega) hnews h1 ?_ ?_ hB ?_
  · simp only [maxLen]; omega
  · have : (n + m) * bytes ≤ 1000000000000 * 100 := Nat.mul_le_mul (by omega) hbytes
    omega
  · intro v' w' h1 h2 _
    refine hK v' w' ⟨h1⟩ ((Below.refl B w).grown h2 hB (fun k hk => ?_))
    rcases hown.out.2 with ⟨rfl, _⟩ | ⟨g, cap, cur, rfl, hg, _⟩
    · simp [Value.ownBlock] at hk
    · simp [Value.ownBlock] at hk; omega
/-- 'append(v, nil...)'. -/
theorem wpList_app0 {P : Program} (w : World) {ops : Array Oper} {rest : List Oper} {o : Oper} {a : Act} {Q : Exit → Act → World → Prop} (hgd : o.guard = none) (s x : Operand) (t : TypeId)
    (ho : o.op = .call { callee := .builtin .append, args := #[s, x], argTypes := #[t, t] })
    (e : Nat) (z : Value) (sz bytes : Nat) (ht : P.underlying t = some (.slice e)) (hinfo : (P.info? e).map (fun i => (i.zero, i.size, i.bytes)) = some (some z, sz, bytes))
    (A : Option Addr) (n c cx : Nat) (hs : a.eval s = .slice A n c) (hx : a.eval x = .slice none 0 cx) (hle : n ≤ c)
    (hK : wpList P ops Q rest (a.put o.dst (.slice A n c)) w) : wpList P ops Q (o :: rest) a w := by
  obtain ⟨i, hi, hzz⟩ := Option.map_eq_some_iff.1 hinfo
  refine wpList_plain hgd fun K hK' => ?_
  have hrun : (Builtin.append_ #[t, t] o.type #[.slice A n c, .slice none 0 cx]).run P w = .ok (.slice A n c) w := by
    cases A <;> simp [Builtin.append_, run_underlying ht, sizeOf, typeInfo, hi, hle, storeCells, Builtin.lenOf, Builtin.firstCells]
  unfold Oper.wp
  simp [execOp, ho, resolve, invoke, builtin, hs, hx, hrun, Result.andThen]
  exact hK' _ _ hK
theorem Rd.news {w : World} {ad : Addr} {l : List Int} (h : Rd w (some ad) l) : ∀ j u, (ints l)[j]? = some u → w.cell? (ad.add j) = some u := fun j v hv => by
  have hj : j < l.length := by
    rcases Nat.lt_or_ge j l.length with h | h
    · exact h
    · rw [List.getElem?_eq_none (by rw [ints_len]; exact h)] at hv; cases hv
  obtain ⟨ad', hA', hc⟩ := h.cell j hj
  cases hA'
  rw [ints_at l hj] at hv; cases hv; exact hc
theorem ints_one (l : List Int) : ∀ u ∈ ints l, u.oneCell' = true := fun v hv => by
  simp only [ints, List.mem_map] at hv
  obtain ⟨x, _, rfl⟩ := hv
  rfl
theorem Own.lit {w : World} {B : Nat} (e sz : Nat) (hB : B ≤ w.heap.size) : Own (w.alloc (.cells #[] e)) B e sz (.slice (some ⟨w.heap.size, 0, none⟩) 0 0) 0 [] :=
  ⟨World.ownsRow_lit w #[] 0 hB (by simp [maxLen]) (by simp)⟩
/-- Nothing that was there has changed but one block. -/
structure Gr (b : Nat) (w w' : World) : Prop where
  os : w'.os = w.os
  tape : w'.tape = w.tape
  output : w'.output = w.output
  size : w.heap.size ≤ w'.heap.size
  block : ∀ k, k < w.heap.size → k ≠ b → w'.heap[k]? = w.heap[k]?
theorem Gr.refl (b : Nat) (w : World) : Gr b w w := ⟨rfl, rfl, rfl, Nat.le_refl _, fun _ _ _ => rfl⟩
theorem Gr.trans {b : Nat} {u v w : World} (h : Gr b u v) (k : Gr b v w) : Gr b u w :=
  ⟨k.os.trans h.os, k.tape.trans h.tape, k.output.trans h.output, Nat.le_trans h.size k.size, fun i hi hne => (k.block i (Nat.lt_of_lt_of_le hi h.size) hne).trans (h.block i hi hne)⟩
theorem Bel.gr {w w' : World} (h : Bel w w') (b : Nat) : Gr b w w' := ⟨h.out.os, h.out.tape, h.out.output, h.out.size, fun k hk _ => h.out.block k hk⟩
theorem Gr.alloc {b : Nat} {u v : World} (h : Gr b u v) (o : Obj) : Gr b u (v.alloc o) := h.trans (((Bel.refl v).alloc o).gr b)
theorem Gr.drew {b : Nat} {u v : World} (h : Gr b u v) : Gr b u v.drew := h.trans ((Bel.refl v).drew.gr b)
theorem Gr.set {b : Nat} {u v : World} (h : Gr b u v) (i : Nat) (x : Value) : Gr b u (v.setCell ⟨b, i, none⟩ x) :=
  h.trans ⟨rfl, rfl, rfl, by simp [World.setCell], fun k _ hne => Below.heap_setCell _ _ _ _ hne⟩
theorem Gr.setNew {b : Nat} {u v : World} (h : Gr b u v) {p : Addr} (hp : u.heap.size ≤ p.block) (x : Value) : Gr b u (v.setCell p x) :=
  ⟨h.os, h.tape, h.output, by have := h.size; simpa [World.setCell] using this, fun k hk hne => (Below.heap_setCell _ _ _ _ (by omega)).trans (h.block k hk hne)⟩
theorem Gr.blk {b : Nat} {w w' : World} (h : Gr b w w') {b' : Nat} {t : TypeId} {cs : List Value} (k : Blk w b' t cs) (hne : b' ≠ b) : Blk w' b' t cs := ⟨by rw [h.block b' k.lt hne]; exact k.out⟩
theorem Gr.below {b B : Nat} {w0 w w' : World} (h : Gr b w w') (k : Below B w0 w) (hB : B ≤ b) (hs : B ≤ w.heap.size) : Below B w0 w' :=
  k.trans ⟨h.os, h.tape, h.output, h.size, fun i hi => h.block i (by omega) (by omega)⟩
/-- 'copy(d, s)' of a whole row of numbers, into a block of the call's own. -/
theorem wpList_cp {P : Program} (w : World) {ops : Array Oper} {rest : List Oper} {o : Oper} {a : Act} {Q : Exit → Act → World → Prop} (hgd : o.guard = none) (d s : Operand) (t : TypeId)
    (ho : o.op = .call { callee := .builtin .copy, args := #[d, s], argTypes := #[t, t] }) (e : TypeId) (hu : P.underlying t = some (.slice e)) (hsz : (P.info? e).map (·.size) = some 1)
    (g off : Nat) (A : Option Addr) (dLen dCap n sCap : Nat) (l : List Int) (hn : l.length = n) (hd : a.eval d = .slice (some ⟨g, off, none⟩) dLen dCap) (hs : a.eval s = .slice A n sCap)
    (cur : List Value) (hg : Blk w g e cur) (hl : Rd w A l) (hfit : n ≤ dLen) (hin : off + n ≤ cur.length)
    (hK : ∀ w', Blk w' g e (cur.take off ++ (ints l ++ cur.drop (off + n))) → Gr g w w' → wpList P ops Q rest (a.put o.dst (goInt n)) w') :
    wpList P ops Q (o :: rest) a w := by
  subst hn
  rcases Nat.eq_zero_or_pos l.length with h0 | h0
  · refine wpList_copy_nothing hgd d s t t ho e hu hsz _ _ dLen dCap l.length sCap hd hs (by rw [h0]; simp) ?_
    have e1 : cur.take off ++ (ints l ++ cur.drop (off + l.length)) = cur := by
      rw [List.length_eq_zero_iff.1 h0]; simp [ints]
    have := hK w (by rw [e1]; exact hg) (Gr.refl g w)
    rw [h0] at this; exact this
  · obtain ⟨ad, rfl, _⟩ := hl.cell 0 h0
    have hb : ∀ v ∈ ints l, v.oneCell' = true := ints_one l
    have := wpList_copy_own (w := w) (ops := ops) hgd d s t t ho e hu hsz g off dLen dCap ad l.length sCap hd hs cur.toArray e hg.out (ints l) (by rw [ints_len]; simp [Nat.min_eq_left hfit]) hl.news (by rw [ints_len]; simpa using hin) hb (Q := Q) (rest := rest)
    refine this ?_
    rw [ints_len]
    refine hK _ ⟨?_⟩ ⟨rfl, rfl, rfl, by simp [World.setRow], fun k hk hne => setRow_other w g k _ hne⟩
    exact setRow_heap w g _ _ e _ hg.out
@[go_sem] theorem run_mkFunc (P : Program) (fn : Fn) (first cap : Array Value) (w : World) : (Instr.makeFunc fn first cap).run P w = .ok (.func fn first cap) w := rfl
/-- The lowest bits of a whole number, below 0 too. -/
theorem i64_mask (n : Int) (k : Nat) (hk : k ≤ 62) : bits .and .i64 n (2 ^ k - 1) = n % 2 ^ k := by
  have hp : (2 : Nat) ^ k ≤ 2 ^ 62 := Nat.pow_le_pow_right (by decide) hk
  have hq : 1 ≤ (2 : Nat) ^ k := Nat.one_le_two_pow
  have hc : ((2 : Int) ^ k - 1) = ((2 ^ k - 1 : Nat) : Int) := by
    rw [Int.natCast_sub hq]; simp
  have hc2 : ((2 : Int) ^ k) = ((2 ^ k : Nat) : Int) := by simp
  have hm : (BitVec.ofInt 64 (((2 ^ k - 1 : Nat) : Int))).toNat = 2 ^ k - 1 := by
    rw [BitVec.ofInt_natCast, BitVec.toNat_ofNat]; exact Nat.mod_eq_of_lt (by omega)
  have key : (BitVec.ofInt 64 n &&& BitVec.ofInt 64 ((2 ^ k - 1 : Nat) : Int)).toNat = (n % ((2 ^ 64 : Nat) : Int)).toNat % 2 ^ k := by
    rw [BitVec.toNat_and, BitVec.toNat_ofInt, hm, Nat.and_two_pow_sub_one_eq_mod]
  rw [hc]
  show IntKind.i64.wrap ((BitVec.ofInt 64 n &&& BitVec.ofInt 64 ((2 ^ k - 1 : Nat) : Int)).toNat : Nat) = n % 2 ^ k
  rw [key, IntKind.wrap_i64, hc2]
  have hd : (2 : Nat) ^ 64 = 2 ^ k * 2 ^ (64 - k) := by rw [← Nat.pow_add]; congr 1; omega
  have h1 : (((n % ((2 ^ 64 : Nat) : Int)).toNat % 2 ^ k : Nat) : Int) = n % ((2 ^ k : Nat) : Int) := by
    have hnn : 0 ≤ n % ((2 ^ 64 : Nat) : Int) := Int.emod_nonneg _ (by decide)
    rw [Int.natCast_emod, Int.toNat_of_nonneg hnn]
    exact Int.emod_emod_of_dvd n ⟨((2 ^ (64 - k) : Nat) : Int), by rw [← Int.natCast_mul, ← hd]⟩
  rw [h1]
  have h2 : 0 ≤ n % ((2 ^ k : Nat) : Int) := Int.emod_nonneg _ (by omega)
  have h3 : n % ((2 ^ k : Nat) : Int) < ((2 ^ k : Nat) : Int) := Int.emod_lt_of_pos _ (by omega)
  generalize n % ((2 ^ k : Nat) : Int) = q at h2 h3 ⊢
  omega
theorem i64_mask24 (n : Int) : bits .and .i64 n 16777215 = n % 16777216 := i64_mask n 24 (by decide)

theorem Gr.bel {b : Nat} {u w w' : World} (h : Gr b w w') (k : Bel u w) (hb : u.heap.size ≤ b) : Bel u w' :=
  ⟨k.out.trans ⟨h.os, h.tape, h.output, h.size, fun i hi => h.block i (by have := k.size; omega) (by omega)⟩⟩
theorem Own.rdAt {w : World} {B g cap n : Nat} {e : Nat} {l : List Int} (h : Own w B e 1 (.slice (some ⟨g, 0, none⟩) n cap) n (ints l)) (hn : l.length = n) (hm : n ≤ 35184372088831) : Rd w (some ⟨g, 0, none⟩) l :=
  ⟨by omega, fun j hj => ⟨_, rfl, by
    rw [show (⟨g, 0, none⟩ : Addr).add j = ⟨g, j, none⟩ from by unfold Addr.add; split <;> simp_all]
    exact h.cell (ints_at l hj)⟩⟩
end Go.Proofs.YtnmjnjhijcnbcaaDoor.Ow
