/-
  Joined, of what this claim leans on: V2, C5, Nd, GB, W0, U0, U1, C6, U2, C7, C8.
-/
import Derived.Deep.RegionHeld3
import Derived.Deep.DrawnRows
import Derived.RegionIn
import Derived.RangeFuncNested
import Derived.RangeFuncBound
import Derived.RangeFuncCalls
import Derived.RangeFuncLeaves
import Derived.RangeFuncBox
import Derived.Shelf.Abstract
import Derived.Shelf.RegionOpen
import Derived.OwnWalkIn
import Derived.TacticsInMore
import Derived.LoopNIn
import Derived.LoopIn
import Derived.BigQuiet
import Derived.ChangeKeysEq
import Derived.Deep.Cut
import Derived.Test.YtalbgklfhabnkaaGreatDoorJIrfftScale3
set_option linter.unusedVariables false
set_option linter.unusedSimpArgs false
set_option maxRecDepth 100000
set_option maxHeartbeats 16000000
namespace Go.Proofs.YtalbgklfhabnkaaGreatDoor
namespace V2
open Go Go.RowKit Go.Shelf Go.Proofs Go.Proofs.YtalbgklfhabnkaaGreatDoor Ow Pl Dp F1 T0 T1 Dt
open Go.Proofs.YtalbgklfhabnkaaGreatDoor.V1 (NI St Abides ni_same ni_loop St.refl St.of_bel rd_keep dv_keep blk_keep ni_blk put_st)
def OneInt (w : World) (k : Nat) : Prop := ∃ (z : Int) (t : TypeId), w.heap[k]? = some (.cells #[.int .i64 z] t (0, 0))
def NJ (w : World) (k : Nat) : Prop := NI w k ∨ OneInt w k
theorem nj_same {u v : World} {k : Nat} (h : v.heap[k]? = u.heap[k]?) (n : NJ u k) : NJ v k := n.imp (ni_same h) (fun ⟨z, t, e⟩ => ⟨z, t, h.trans e⟩)
theorem oneInt_blk {w : World} {b : Nat} {t : TypeId} {z : Int} (h : Blk w b t [.int .i64 z]) : OneInt w b := ⟨z, t, h.out⟩
structure Yd (bs O : List Nat) (B : Nat) (w w' : World) : Prop where
 os : w'.os = w.os
 tape : w'.tape = w.tape
 output : w'.output = w.output
 size : w.heap.size ≤ w'.heap.size
 block : ∀ k, k < w.heap.size → w'.heap[k]? = w.heap[k]? ∨ (NJ w k ∧ k ∉ O ∧ (k ∈ bs ∨ B ≤ k))
theorem Yd.of_bel {u v : World} (h : Bel u v) (bs O : List Nat) (B : Nat) : Yd bs O B u v := ⟨h.out.os, h.out.tape, h.out.output, h.out.size, fun k hk => .inl (h.out.block k hk)⟩
theorem Yd.st {bs O : List Nat} {B : Nat} {u v : World} (h : Yd bs O B u v) : ∀ k, k < u.heap.size → v.heap[k]? = u.heap[k]? ∨ NJ u k := fun k hk => (h.block k hk).imp id (·.1)
theorem Yd.trans {bs O : List Nat} {B : Nat} {u v w : World} (h : Yd bs O B u v) (g : Yd bs O B v w) : Yd bs O B u w :=
 ⟨g.os.trans h.os, g.tape.trans h.tape, g.output.trans h.output, Nat.le_trans h.size g.size, fun k hk => by
  rcases h.block k hk with e | e
  ·rcases g.block k (Nat.lt_of_lt_of_le hk h.size) with q | ⟨q1, q2⟩
   ·exact .inl (q.trans e)
   ·exact .inr ⟨nj_same e.symm q1, q2⟩
  ·exact .inr e⟩
theorem rd_same {u v : World} {A : Option Addr} {l : List Int} (h : Rd u A l) (hs : ∀ ad, A = some ad → 0 < l.length → v.heap[ad.block]? = u.heap[ad.block]?) : Rd v A l :=
 ⟨h.max, fun j hj => by
  obtain ⟨ad, e, hc⟩ := h.cell j hj
  refine ⟨ad, e, ?_⟩
  have := hs ad e (by omega)
  unfold World.cell? at hc ⊢
  rw [add_block] at hc ⊢
  rw [this]; exact hc⟩
theorem ni_no {u : World} {ad : Addr} {x : Nat} (h : Rd u (some ad) (digs x)) (hx : 0 < (digs x).length) (q : NI u ad.block) : False := by
 obtain ⟨ad', e', hc'⟩ := h.cell ((digs x).length - 1) (by omega)
 cases e'
 have h0 := q (ad.add ((digs x).length - 1)) (add_block _ _) _ hc'
 have hl := digs_can x
 have hlast : (digs x).getLast? = some (nth (digs x) ((digs x).length - 1)) := by
  rw [List.getLast?_eq_getElem?]; simp only [nth]
  rw [List.getElem?_eq_getElem (by omega), List.getD_eq_getElem?_getD, List.getElem?_eq_getElem (by omega)]; rfl
 have hmem : nth (digs x) ((digs x).length - 1) ∈ digs x := List.mem_of_getLast? hlast
 have h1 := (hl.1 _ hmem).1
 have : nth (digs x) ((digs x).length - 1) = 0 := by omega
 exact hl.2 (by rw [hlast, this])
theorem add_off (ad : Addr) (j : Nat) : (ad.add j).off = ad.off + j := by
 unfold Addr.add; split
 ·subst_vars; rfl
 ·rfl
theorem one_cell {u : World} {ad : Addr} {z y : Int} {t : TypeId} {j : Nat} (e : u.heap[ad.block]? = some (.cells #[.int .i64 z] t (0, 0))) (hc : u.cell? (ad.add j) = some (.int .i64 y)) : ad.off + j = 0 ∧ y = z := by
 unfold World.cell? at hc
 rw [add_block, e] at hc
 simp at hc
 have := hc.2
 rw [add_off] at this
 rcases hn : ad.off + j with _ | k
 ·rw [hn] at this; simp at this; exact ⟨rfl, this.symm⟩
 ·rw [hn] at this; simp at this
theorem rd_keepL {u v : World} {A : Option Addr} {x : Nat} (h : Rd u A (digs x)) (hl : x = 0 ∨ 2 ≤ (digs x).length) (hs : ∀ k, k < u.heap.size → v.heap[k]? = u.heap[k]? ∨ NJ u k) : Rd v A (digs x) := by
 rcases hl with rfl | hl
 ·rw [digs_zero]; exact Rd.nil _ _
 ·refine rd_same h fun ad hA hlen => ?_
  subst hA
  obtain ⟨ad', e0, hc0⟩ := h.cell 0 hlen
  cases e0
  have hlt := World.block_lt_of_cell? u _ hc0
  rw [add_block] at hlt
  rcases hs _ hlt with e | e | ⟨z, t, e⟩
  ·exact e
  ·exact (ni_no h hlen e).elim
  ·exfalso
   obtain ⟨ad', e1, hc1⟩ := h.cell 1 (by omega)
   cases e1
   have := (one_cell e hc1).1
   omega
theorem lg_nat {v : Int} (h : LgV v) : dm v = 0 ∨ 2 ≤ (digs (dm v)).length := h.imp (fun e => by rw [e]; exact odd_zero) id
theorem dv_keepL {u v : World} {A : Option Addr} {c : Nat} {x : Int} {L U : Nat} (h : Dv u A c x L U) (hl : LgV x) (hs : ∀ k, k < u.heap.size → v.heap[k]? = u.heap[k]? ∨ NJ u k) : Dv v A c x L U := ⟨h.cap, rd_keepL h.rd (lg_nat hl) hs, h.wd⟩
def KyV (v : Int) : Prop := LgV v ∨ dm v = 1
theorem dv_keepQ {u v : World} {A : Option Addr} {c b : Nat} {x z : Int} {L U : Nat} {t : TypeId} (h : Dv u A c x L U) (hl : KyV x) (hb : Blk u b t [.int .i64 z]) (hz : z ≠ 1) (hs : ∀ k, k < u.heap.size → k ≠ b → v.heap[k]? = u.heap[k]?) : Dv v A c x L U := by
 rcases hl with hl | h1
 ·exact dv_keepL h hl fun k hk => by
   by_cases e : k = b
   ·subst e; exact .inr (.inr (oneInt_blk hb))
   ·exact .inl (hs k hk e)
 ·refine ⟨h.cap, rd_same h.rd fun ad hA hlen => ?_, h.wd⟩
  subst hA
  obtain ⟨ad', e0, hc0⟩ := h.rd.cell 0 hlen
  cases e0
  have hlt := World.block_lt_of_cell? u _ hc0
  rw [add_block] at hlt
  by_cases e : ad.block = b
  ·exfalso
   subst e
   have := (one_cell hb.out hc0).2
   rw [h1] at this
   have hd : digs 1 = [1] := digs_one
   rw [hd] at this
   exact hz this.symm
  ·exact hs _ hlt e
structure Wk (ks : List Nat) (w w' : World) : Prop where
 size : w.heap.size ≤ w'.heap.size
 block : ∀ k, k < w.heap.size → w'.heap[k]? = w.heap[k]? ∨ (NJ w k ∧ k ∈ ks)
theorem Wk.refl (ks : List Nat) (w : World) : Wk ks w w := ⟨Nat.le_refl _, fun _ _ => .inl rfl⟩
theorem Wk.bel {ks : List Nat} {u v w : World} (h : Wk ks u v) (g : Bel v w) : Wk ks u w := ⟨Nat.le_trans h.size g.size, fun k hk => (h.block k hk).imp (fun e => (g.out.block k (Nat.lt_of_lt_of_le hk h.size)).trans e) id⟩
theorem Wk.yd {ks O : List Nat} {u v w : World} (h : Wk ks u v) (g : Yd ks O u.heap.size v w) : Wk ks u w := ⟨Nat.le_trans h.size g.size, fun k hk => by
 rcases h.block k hk with e | e
 ·rcases g.block k (Nat.lt_of_lt_of_le hk h.size) with q | ⟨q1, q2, q3 | q3⟩
  ·exact .inl (q.trans e)
  ·exact .inr ⟨nj_same e.symm q1, q3⟩
  ·omega
 ·exact .inr e⟩
theorem Wk.blk {ks : List Nat} {u v : World} {b : Nat} {t : TypeId} {cs : List Value} (h : Wk ks u v) (hb : b ∉ ks) (k : Blk u b t cs) : Blk v b t cs := by
 rcases h.block b k.lt with e | e
 ·exact blk_keep k e
 ·exact (hb e.2).elim
theorem Wk.tab {ks : List Nat} {u v : World} (h : Wk ks u v) (hb : 1 ∉ ks) (k : Tab u) : Tab v := by
 rcases h.block 1 (I4.Tab.lt k) with e | e
 ·exact ⟨fun i hi => by have := k.cell i hi; unfold World.cell? at this ⊢; rw [e]; exact this⟩
 ·exact (hb e.2).elim
theorem yd_blk {ks O : List Nat} {B : Nat} {u v : World} {b : Nat} {t : TypeId} {cs : List Value} (h : Yd ks O B u v) (hb : b ∈ O) (k : Blk u b t cs) : Blk v b t cs := by
 rcases h.block b k.lt with e | ⟨_, e, _⟩
 ·exact blk_keep k e
 ·exact (e hb).elim
def bodyB {α : Type} (bs O : List Nat) (B : Nat) (I : List α → List Nat → World → Prop) (Ix : Code → List α → List Nat → World → Prop) (pre : List α) (W : World) : Exit → Act → World → Prop
 | .normal, _, w => Yd bs O B W w ∧ I pre O w
 | .ret, _, w => Yd bs O B W w ∧ Ix .ret pre O w
 | .exit id, _, w => Yd bs O B W w ∧ Ix (.exit id) pre O w
 | .goto t, _, w => Yd bs O B W w ∧ Ix (.goto t) pre O w
 | .panic _, _, _ => False
 | .outgrown, _, _ => False
def SeqB {α : Type} (P : Program) (n : Nat) (l : Nat) (gf : Nat) (lb : Array Value) (encs : α → Array Value) (ks : List Nat) (N : Nat) (Px : List α → α → World → Prop) (S Sp : List α → Prop) (W : World) (Bd : Prop := False) : Prop :=
 ∀ (J Jx : List α → List Nat → World → Prop), (Bd → ∀ pre O W, J pre O W → pre.length < N) → (∀ s, V1.Abides (J s)) → (∀ s, V1.Abides (Jx s)) →
  (∀ pre O x W1, J pre O W1 → pre.length < N → Px pre x W1 → (∀ k ∈ O, W.heap.size ≤ k) → W.heap.size ≤ W1.heap.size → YieldAt Fence.wide (n - 1) P l (encs x) W1 fun e W' =>
   (e = .returned (.bool true) ∧ J (pre ++ [x]) O W' ∧ Yd ks O W.heap.size W1 W') ∨ (e = .returned (.bool false) ∧ Jx (pre ++ [x]) O W' ∧ Yd ks O W.heap.size W1 W')) →
  J [] [] W → CallsIn Fence.wide n P gf (#[.func (.yield l) #[] #[]] ++ lb) W fun e W' => (∃ v, e = .returned v) ∧ ((∃ ys O, S ys ∧ J ys O W' ∧ ∀ k ∈ O, W.heap.size ≤ k) ∨ (∃ pre O, Sp pre ∧ Jx pre O W' ∧ ∀ k ∈ O, W.heap.size ≤ k))
theorem rangeB {α : Type} {P : Program} {n : Nat} {g : Operand} {ps : Array Tmp} {assign body : Code} {Q : Exit → Act → World → Prop} {a : Act} {w : World}
  (h1 : 1 ≤ n) {gf : Nat} {lb : Array Value} (hg : a.eval g = .func (.func gf) #[] lb) (eg : ∀ args w, (callFunc gf args).run P w = .ok (.enter gf args) w)
  {encs : α → Array Value} (hps : ∀ x, (encs x).size = ps.size) {bs : List Nat} (hbs : ∀ b ∈ bs, b < w.heap.size) {N : Nat} {Px : List α → α → World → Prop} {S Sp : List α → Prop} {Bd : Prop}
  (hseq : ∀ W, W.heap.size = w.heap.size + 2 → Bel w W → SeqB P (n - 1) (w.heap.size + 1) gf lb encs (bs ++ [w.heap.size + 1]) N Px S Sp W Bd)
  (I : List α → List Nat → World → Prop) (Ix : Code → List α → List Nat → World → Prop) (hBd : Bd → ∀ pre O W, I pre O W → pre.length < N) (hI : ∀ s, V1.Abides (I s)) (hIx : ∀ c s, V1.Abides (Ix c s)) (h0 : I [] [] w)
  (Ax : List α → α → Act → World → Prop) (hAx : ∀ pre x a' A r o, A.heap[w.heap.size + 1]? = some (.loop r) → Ax pre x a' A → Ax pre x a' (A.putObj (w.heap.size + 1) o))
  (hassign : ∀ (l : Nat) (pre : List α) (O : List Nat) (x : α) (W : World) (K : Act → World → Prop), I pre O W → w.heap.size + 1 < W.heap.size → Px pre x W → (∀ a' W1, Bel W W1 → Ax pre x a' W1 → K a' W1) →
   assign.wpIn (Fence.wide.inRound l) (n - 1 - 1) P (Exit.then K (fun _ _ _ => False)) { tmps := (ps.zip (encs x)).foldl (fun t (p, v) => t.setIfInBounds p v) a.tmps, defers := [] } W)
  (hbody : ∀ (l : Nat) (pre : List α) (O : List Nat) (x : α) (a' : Act) (W : World), I pre O W → pre.length < N → w.heap.size + 1 < W.heap.size → Ax pre x a' W → (∀ k ∈ O, w.heap.size + 1 ≤ k) → (w.heap.size + 1) ∈ O →
   body.wpIn (Fence.wide.inRound l) (n - 1 - 1) P (bodyB bs O (w.heap.size + 2) I Ix (pre ++ [x]) W) a' W)
  (hdone : ∀ (ys : List α) (O : List Nat) (W : World), w.heap.size + 1 < W.heap.size → S ys → I ys O W → W.heap[w.heap.size]? = some (.deferred (some [])) → Q .normal { a with defers := { target := .collected w.heap.size, args := #[] } :: a.defers } W)
  (hstop : ∀ (c : Code) (pre : List α) (O : List Nat) (W : World), w.heap.size + 1 < W.heap.size → Sp pre → Ix c pre O W → W.heap[w.heap.size]? = some (.deferred (some [])) → c.wpIn Fence.wide n P Q { a with defers := { target := .collected w.heap.size, args := #[] } :: a.defers } W) :
  (Code.rangeFunc g ps assign body).wpIn Fence.wide n P Q a w := by
 apply wpIn_rangeFunc
 intro fn _
 obtain ⟨rec, hrec⟩ : ∃ rec : LoopState → Option Code → Loop, rec = fun st pe => { state := st, pending := pe, fn, tmps := a.tmps, params := ps, assign, body, defers := w.heap.size } := ⟨_, rfl⟩
 have R0 : (Instr.enterLoop fn a.tmps ps assign body none).run P w = .ok (w.heap.size + 1, [{ target := .collected w.heap.size, args := #[] }]) ((w.alloc (.deferred (some []))).alloc (.loop (rec .ready none))) := by
  rw [hrec]; exact run_enterLoop_outer fn a.tmps ps assign body
 have L1 : ((w.alloc (.deferred (some []))).alloc (.loop (rec .ready none))).heap[w.heap.size + 1]? = some (.loop (rec .ready none)) := by
  have := World.alloc_heap_new (w.alloc (.deferred (some []))) (.loop (rec .ready none))
  rwa [World.size_alloc] at this
 have D1 : ((w.alloc (.deferred (some []))).alloc (.loop (rec .ready none))).heap[w.heap.size]? = some (.deferred (some [])) :=
  (Below.heap_alloc _ _ _ (by simp)).trans (World.alloc_heap_new w _)
 have B1 : Bel w ((w.alloc (.deferred (some []))).alloc (.loop (rec .ready none))) := ((Bel.refl w).alloc _).alloc _
 have Z1 : ((w.alloc (.deferred (some []))).alloc (.loop (rec .ready none))).heap.size = w.heap.size + 2 := by simp only [World.size_alloc]
 generalize (w.alloc (.deferred (some []))).alloc (.loop (rec .ready none)) = W1 at R0 L1 D1 B1 Z1
 refine ⟨w.heap.size + 1, [{ target := .collected w.heap.size, args := #[] }], W1, { target := .fn (.func gf) lb, args := #[.func (.yield (w.heap.size + 1)) #[] #[]] }, W1, gf, #[.func (.yield (w.heap.size + 1)) #[] #[]] ++ lb, W1, R0, ?_, fun _ _ => trivial, ?_, fun _ => h1, ?_⟩
 ·simp only [resolve, hg]; simp [go_sem]
 ·simp [invoke, go_sem, eg]
 -- what stays of the loop's record and of the deferred block, when the iterator steps
 have kept : ∀ {O : List Nat} {A B : World} {k : Nat} {o : Obj}, St O A B → (∀ k ∈ O, w.heap.size + 2 ≤ k) → k < w.heap.size + 2 → A.heap[k]? = some o → B.heap[k]? = some o := fun {O A B k o} hs ho hk he => by
  have hlt : k < A.heap.size := (Array.getElem?_eq_some_iff.1 he).1
  rcases hs.block k hlt with q | ⟨q, _⟩
  ·exact q.trans he
  ·have := ho k q; omega
 have cons : ∀ {J : List Nat → World → Prop}, V1.Abides J → V1.Abides fun O W => J ((w.heap.size + 1) :: O) W := fun hJ O A O' B h hs h1 h2 =>
  hJ ((w.heap.size + 1) :: O) A ((w.heap.size + 1) :: O') B h ⟨hs.os, hs.tape, hs.output, hs.size, fun k hk => (hs.block k hk).imp id fun ⟨x, y⟩ => ⟨List.mem_cons_of_mem _ x, y⟩⟩
   (fun k hk => (List.mem_cons.1 hk).elim (fun e => e ▸ List.mem_cons_self) (fun q => List.mem_cons_of_mem _ (h1 k q)))
   (fun k hk => (List.mem_cons.1 hk).elim (fun e => .inl (e ▸ List.mem_cons_self)) (fun q => (h2 k q).imp (List.mem_cons_of_mem _) id))
 refine (hseq W1 Z1 B1 (fun pre O W => I pre ((w.heap.size + 1) :: O) W ∧ (∀ k ∈ O, w.heap.size + 2 ≤ k) ∧ w.heap.size + 2 ≤ W.heap.size ∧ W.heap[w.heap.size + 1]? = some (.loop (rec .ready none)) ∧ W.heap[w.heap.size]? = some (.deferred (some [])))
  (fun pre O W => ∃ c, Ix c pre ((w.heap.size + 1) :: O) W ∧ (∀ k ∈ O, w.heap.size + 2 ≤ k) ∧ w.heap.size + 2 ≤ W.heap.size ∧ W.heap[w.heap.size + 1]? = some (.loop (rec .done (some c))) ∧ W.heap[w.heap.size]? = some (.deferred (some []))) (fun hb pre O W h => hBd hb pre _ W h.1) ?_ ?_ ?_ ?_).mono ?_
 ·rintro s O A O' B ⟨x, o, sz, y, z⟩ hb h1 h2
  exact ⟨cons (hI s) _ _ _ _ x hb h1 h2, fun k hk => (h2 k hk).elim (o k) (fun q => by omega), Nat.le_trans sz hb.size, kept hb o (by omega) y, kept hb o (by omega) z⟩
 ·rintro s O A O' B ⟨c, x, o, sz, y, z⟩ hb h1 h2
  exact ⟨c, cons (hIx c s) _ _ _ _ x hb h1 h2, fun k hk => (h2 k hk).elim (o k) (fun q => by omega), Nat.le_trans sz hb.size, kept hb o (by omega) y, kept hb o (by omega) z⟩
 ·rintro pre O x W ⟨hi, ho, hsw, hl, hd⟩ hlen hpx hok hsz
  have hy := run_yield (P := P) (args := encs x) hl (by rw [hrec]; exact hps x)
  rw [hrec] at hy
  refine ⟨fn, _, assign, body, hy, roundIn_of_wpIn trivial (hassign _ pre _ x W _ hi (by omega) hpx ?_)⟩
  intro a' W2 b2 ax2
  have hl2 := (b2.out.block _ (by omega)).trans hl
  have hd2 := (b2.out.block _ (by omega)).trans hd
  have z2 := b2.size
  refine ⟨_, run_beginRound hl2 (by rw [hrec]), ?_⟩
  have lt2 : w.heap.size + 1 < W2.heap.size := by omega
  have hl3 : (W2.putObj (w.heap.size + 1) (.loop { rec .ready none with state := .busy })).heap[w.heap.size + 1]? = some (.loop { rec .ready none with state := .busy }) := World.putObj_heap_same lt2
  have hd3 : (W2.putObj (w.heap.size + 1) (.loop { rec .ready none with state := .busy })).heap[w.heap.size]? = some (.deferred (some [])) := (World.putObj_heap_other (by omega)).trans hd2
  have z3 : (W2.putObj (w.heap.size + 1) (.loop { rec .ready none with state := .busy })).heap.size = W2.heap.size := by simp [World.putObj]
  have k3 : ∀ k, k < W.heap.size → k ≠ w.heap.size + 1 → (W2.putObj (w.heap.size + 1) (.loop { rec .ready none with state := .busy })).heap[k]? = W.heap[k]? := fun k hk hn => (World.putObj_heap_other hn).trans (b2.out.block k hk)
  have e3 : (W2.putObj (w.heap.size + 1) (.loop { rec .ready none with state := .busy })).os = W.os ∧ (W2.putObj (w.heap.size + 1) (.loop { rec .ready none with state := .busy })).tape = W.tape ∧ (W2.putObj (w.heap.size + 1) (.loop { rec .ready none with state := .busy })).output = W.output := ⟨b2.out.os, b2.out.tape, b2.out.output⟩
  have i3 : I pre ((w.heap.size + 1) :: O) (W2.putObj (w.heap.size + 1) (.loop { rec .ready none with state := .busy })) :=
   hI _ _ _ _ _ (hI _ _ _ _ _ hi (St.of_bel b2 _) (fun _ h => h) (fun _ h => .inl h)) (put_st hl2 _ List.mem_cons_self) (fun _ h => h) (fun _ h => .inl h)
  have a3 := hAx pre x a' W2 _ (.loop { rec .ready none with state := .busy }) hl2 ax2
  generalize W2.putObj (w.heap.size + 1) (.loop { rec .ready none with state := .busy }) = W3 at hl3 hd3 z3 k3 i3 a3 e3
  refine wpIn_mono (hbody _ pre ((w.heap.size + 1) :: O) x a' W3 i3 hlen (by omega) a3 (fun k hk => (List.mem_cons.1 hk).elim (fun e => by omega) (fun q => by have := ho k q; omega)) List.mem_cons_self) ?_
  have fin : ∀ (j : Option Code) (W4 : World), Yd bs ((w.heap.size + 1) :: O) (w.heap.size + 2) W3 W4 →
    (Instr.endRound (w.heap.size + 1) j).run P W4 = .ok (.bool j.isNone) (W4.putObj (w.heap.size + 1) (.loop (rec (if j.isNone then .ready else .done) j))) ∧
    (W4.putObj (w.heap.size + 1) (.loop (rec (if j.isNone then .ready else .done) j))).heap[w.heap.size + 1]? = some (.loop (rec (if j.isNone then .ready else .done) j)) ∧
    (W4.putObj (w.heap.size + 1) (.loop (rec (if j.isNone then .ready else .done) j))).heap[w.heap.size]? = some (.deferred (some [])) ∧
    w.heap.size + 2 ≤ (W4.putObj (w.heap.size + 1) (.loop (rec (if j.isNone then .ready else .done) j))).heap.size ∧
    Yd (bs ++ [w.heap.size + 1]) O W1.heap.size W (W4.putObj (w.heap.size + 1) (.loop (rec (if j.isNone then .ready else .done) j))) ∧
    (∃ r, W4.heap[w.heap.size + 1]? = some (.loop r)) := fun j W4 k4 => by
   have hl4 : W4.heap[w.heap.size + 1]? = some (.loop { rec .ready none with state := .busy }) := by
    rcases k4.block (w.heap.size + 1) (by omega) with q | ⟨_, q, _⟩
    ·exact q.trans hl3
    ·exact (q List.mem_cons_self).elim
   have hd4 : W4.heap[w.heap.size]? = some (.deferred (some [])) := by
    rcases k4.block w.heap.size (by omega) with q | ⟨_, _, q | q⟩
    ·exact q.trans hd3
    ·exact (Nat.lt_irrefl _ (hbs _ q)).elim
    ·omega
   have e := run_endRound (P := P) j hl4
   have z4 := k4.size
   refine ⟨?_, World.putObj_heap_same (by omega), (World.putObj_heap_other (by omega)).trans hd4, by simp only [World.putObj, Array.size_setIfInBounds, Array.size_modify] at *; omega, ⟨k4.os.trans e3.1, k4.tape.trans e3.2.1, k4.output.trans e3.2.2, by simp only [World.putObj, Array.size_setIfInBounds, Array.size_modify] at *; omega, fun k hk => ?_⟩, _, hl4⟩
   ·rw [hrec] at e ⊢
    exact e
   ·by_cases ek : k = w.heap.size + 1
    ·subst ek
     exact .inr ⟨.inl (ni_loop hl), fun q => by have := ho _ q; omega, .inl (by simp)⟩
    ·rcases k4.block k (by omega) with q | ⟨q1, q2, q3⟩
     ·exact .inl ((World.putObj_heap_other ek).trans (q.trans (k3 k hk ek)))
     ·refine .inr ⟨nj_same (k3 k hk ek).symm q1, fun q => q2 (List.mem_cons_of_mem _ q), ?_⟩
      rcases q3 with q3 | q3
      ·exact .inl (by simp [q3])
      ·exact .inr (by omega)
  have putI : ∀ {J : List Nat → World → Prop} {W4 : World} {o : Obj}, V1.Abides J → (∃ r, W4.heap[w.heap.size + 1]? = some (.loop r)) → J ((w.heap.size + 1) :: O) W4 → J ((w.heap.size + 1) :: O) (W4.putObj (w.heap.size + 1) o) :=
   fun hJ ⟨r, hr⟩ h => hJ _ _ _ _ h (put_st hr _ List.mem_cons_self) (fun _ h => h) (fun _ h => .inl h)
  rintro e a4 W4 hp
  cases e with
  | normal =>
   obtain ⟨k4, i4⟩ := hp
   obtain ⟨f1, f2, f3, f4, f5, f6⟩ := fin none W4 k4
   exact ⟨_, _, f1, .inl ⟨rfl, ⟨putI (hI _) f6 i4, ho, f4, f2, f3⟩, f5⟩⟩
  | ret =>
   obtain ⟨k4, i4⟩ := hp
   obtain ⟨f1, f2, f3, f4, f5, f6⟩ := fin (some .ret) W4 k4
   exact ⟨_, _, f1, .inr ⟨rfl, ⟨.ret, putI (hIx _ _) f6 i4, ho, f4, f2, f3⟩, f5⟩⟩
  | exit id =>
   obtain ⟨k4, i4⟩ := hp
   obtain ⟨f1, f2, f3, f4, f5, f6⟩ := fin (some (.exit id)) W4 k4
   exact ⟨_, _, f1, .inr ⟨rfl, ⟨.exit id, putI (hIx _ _) f6 i4, ho, f4, f2, f3⟩, f5⟩⟩
  | goto t =>
   obtain ⟨k4, i4⟩ := hp
   obtain ⟨f1, f2, f3, f4, f5, f6⟩ := fin (some (.goto t)) W4 k4
   exact ⟨_, _, f1, .inr ⟨rfl, ⟨.goto t, putI (hIx _ _) f6 i4, ho, f4, f2, f3⟩, f5⟩⟩
  | panic _ => exact hp.elim
  | outgrown => exact hp.elim
 ·refine ⟨hI _ _ _ _ _ h0 (St.of_bel B1 _) (fun k hk => by simp at hk) (fun k hk => .inr (by simp at hk; omega)), by simp, by omega, L1, D1⟩
 ·rintro e W2 ⟨⟨v, rfl⟩, hr⟩
  rcases hr with ⟨ys, O, hs, ⟨hi, ho, hsz, hl, hd⟩, _⟩ | ⟨pre, O, hs, ⟨c, hi, ho, hsz, hl, hd⟩, _⟩
  ·have e := run_endLoop (P := P) hl (by rw [hrec]; simp)
   have lt := (Array.getElem?_eq_some_iff.1 hl).1
   refine ⟨none, W2.putObj (w.heap.size + 1) (.loop { rec .ready none with state := .exhausted }), by rw [e, hrec], ?_⟩
   exact hdone ys _ _ (by simpa [World.putObj] using lt) hs (hI _ _ _ _ _ hi (put_st hl _ List.mem_cons_self) (fun _ h => h) (fun _ h => .inl h)) ((World.putObj_heap_other (by omega)).trans hd)
  ·have e := run_endLoop (P := P) hl (by rw [hrec]; simp)
   have lt := (Array.getElem?_eq_some_iff.1 hl).1
   refine ⟨some c, W2.putObj (w.heap.size + 1) (.loop { rec .done (some c) with state := .exhausted }), by rw [e, hrec], ?_⟩
   exact hstop c pre _ _ (by simpa [World.putObj] using lt) hs (hIx _ _ _ _ _ _ hi (put_st hl _ List.mem_cons_self) (fun _ h => h) (fun _ h => .inl h)) ((World.putObj_heap_other (by omega)).trans hd)
end V2
namespace C5
open Go Go.RowKit Go.Proofs.YtalbgklfhabnkaaGreatDoor Ow Pl Dp Dt D3 F1 T0 I0 I4 V2 T1
open Go.Proofs.YtalbgklfhabnkaaGreatDoor.V1 (NI St Abides ni_same ni_loop St.refl St.of_bel rd_keep dv_keep blk_keep ni_blk put_st)
open C0 C1 C3
attribute [local go_sem ↓] Go.wp_at_zero Go.wp_at_succ
structure Pc where
 A : Option Addr
 a : Nat
 B : Option Addr
 b : Nat
 C : Option Addr
 c : Nat
 D : Option Addr
 d : Nat
 p : Pt
def Pc.cells (x : Pc) : List Value := [.bool (dneg x.p.1.1), .slice x.A (digs (dm x.p.1.1)).length x.a, .int .i64 (de x.p.1.1), .bool (dneg x.p.1.2), .slice x.B (digs (dm x.p.1.2)).length x.b, .int .i64 (de x.p.1.2), .bool (dneg x.p.2.1), .slice x.C (digs (dm x.p.2.1)).length x.c, .int .i64 (de x.p.2.1), .bool (dneg x.p.2.2), .slice x.D (digs (dm x.p.2.2)).length x.d, .int .i64 (de x.p.2.2)]
def Pc.enc (x : Pc) : Array Value := #[.agg #[.bool (dneg x.p.1.1), .slice x.A (digs (dm x.p.1.1)).length x.a, .int .i64 (de x.p.1.1), .bool (dneg x.p.1.2), .slice x.B (digs (dm x.p.1.2)).length x.b, .int .i64 (de x.p.1.2), .bool (dneg x.p.2.1), .slice x.C (digs (dm x.p.2.1)).length x.c, .int .i64 (de x.p.2.1), .bool (dneg x.p.2.2), .slice x.D (digs (dm x.p.2.2)).length x.d, .int .i64 (de x.p.2.2)]]
structure Pc.Dv (W : World) (x : Pc) : Prop where
 k1 : F1.Dv W x.A x.a x.p.1.1 400 3
 k2 : F1.Dv W x.B x.b x.p.1.2 400 3
 k3 : F1.Dv W x.C x.c x.p.2.1 400 3
 k4 : F1.Dv W x.D x.d x.p.2.2 400 3
theorem Pc.Dv.bel {u v : World} {x : Pc} (h : x.Dv u) (g : Bel u v) : x.Dv v := ⟨h.k1.bel g, h.k2.bel g, h.k3.bel g, h.k4.bel g⟩
theorem Pc.Dv.keep {u v : World} {x : Pc} (h : x.Dv u) (hs : ∀ k, k < u.heap.size → v.heap[k]? = u.heap[k]? ∨ NI u k) : x.Dv v := ⟨dv_keep h.k1 hs, dv_keep h.k2 hs, dv_keep h.k3 hs, dv_keep h.k4 hs⟩
theorem Pc.Dv.keepL {u v : World} {x : Pc} (h : x.Dv u) (l : LgP x.p) (hs : ∀ k, k < u.heap.size → v.heap[k]? = u.heap[k]? ∨ NJ u k) : x.Dv v := ⟨dv_keepL h.k1 l.cl hs, dv_keepL h.k2 l.ch hs, dv_keepL h.k3 l.sl hs, dv_keepL h.k4 l.sh hs⟩
theorem ni_pc {w : World} {b : Nat} {t : TypeId} {x : Pc} (K : Blk w b t x.cells) (h : OkP x.p) : NI w b := ni_blk K (by
 have h1 := h.cl.e0
 have h2 := h.ch.e0
 have h3 := h.sl.e0
 have h4 := h.sh.e0
 intro i z hz
 unfold Pc.cells at hz
 rcases i with _ | _ | _ | _ | _ | _ | _ | _ | _ | _ | _ | _ | i <;> simp at hz <;> omega)
theorem least_ex {p : Nat → Prop} : ∀ n, p n → ∃ m, p m ∧ ∀ k, p k → m ≤ k := by
 intro n
 induction n using Nat.strongRecOn with
 | _ n ih =>
  intro h
  by_cases hk : ∃ k, k < n ∧ p k
  ·obtain ⟨k, h1, h2⟩ := hk
   exact ih k h1 h2
  ·exact ⟨n, h, fun k hp => by
    rcases Nat.lt_or_ge k n with q | q
    ·exact (hk ⟨k, q, hp⟩).elim
    ·exact q⟩
noncomputable def leastN (p : Nat → Prop) : Nat := by
 classical
 exact if h : ∃ n, p n then Classical.choose (least_ex (Classical.choose h) (Classical.choose_spec h)) else 0
theorem leastN_spec {p : Nat → Prop} {n : Nat} (h : p n) : p (leastN p) ∧ ∀ k, p k → leastN p ≤ k := by
 unfold leastN
 rw [dif_pos ⟨n, h⟩]
 exact Classical.choose_spec (least_ex (Classical.choose ⟨n, h⟩) (Classical.choose_spec ⟨n, h⟩))
def At (J : List Pc → List Nat → World → Prop) (ks : List Nat) (W : World) (w N b : Nat) (m : Nat) (wr : World) : Prop :=
 ∃ (pre : List Pc) (O : List Nat) (x : Pc), m = N - pre.length ∧ pre.length < N ∧ x.p = halvesP w pre.length ∧ J pre O wr ∧ Wk ks W wr ∧ Blk wr b 219 x.cells ∧ x.Dv wr ∧ b ∈ O ∧ (∀ q ∈ O, W.heap.size ≤ q)
theorem hv_zero {w : Nat} (h : HvP w 0) : Wd (halfRoot T0.one w).1 400 3 ∧ Wd (halfRoot T0.one w).2 400 3 := ⟨h.ok.cl.wd, h.ok.ch.wd⟩
theorem hv_succ {w j : Nat} (h : HvP w (j + 1)) : Wd (halfRoot (iadd T0.one (halvesP w j).1) w).1 400 3 ∧ Wd (halfRoot (iadd T0.one (halvesP w j).1) w).2 400 3 ∧ Wd (halfRoot (iadd T0.one (iflip (halvesP w j).1)) w).1 400 3 ∧ Wd (halfRoot (iadd T0.one (iflip (halvesP w j).1)) w).2 400 3 := ⟨h.ok.cl.wd, h.ok.ch.wd, h.ok.sl.wd, h.ok.sh.wd⟩
theorem half_parts {a : Iv} {w : Nat} : rootV (ishift a (-1)).1 w false = (halfRoot a w).1 ∧ rootV (ishift a (-1)).2 w true = (halfRoot a w).2 := ⟨rfl, rfl⟩
theorem set12_fr (w : World) (b : Nat) (v0 v1 v2 v3 v4 v5 v6 v7 v8 v9 va vb : Value) : (set12 w b v0 v1 v2 v3 v4 v5 v6 v7 v8 v9 va vb).os = w.os ∧ (set12 w b v0 v1 v2 v3 v4 v5 v6 v7 v8 v9 va vb).tape = w.tape ∧ (set12 w b v0 v1 v2 v3 v4 v5 v6 v7 v8 v9 va vb).output = w.output := by
 unfold set12
 simp only [World.setCell, and_self]
theorem half_step {J : List Pc → List Nat → World → Prop} {ks : List Nat} {W w6 w13 : World} {w N b4 : Nat} {pre : List Pc} {O : List Nat} {x x' : Pc} {v0 v1 v2 v3 v4 v5 v6 v7 v8 v9 va vb : Value} (hp : x'.p = halvesP w (pre.length + 1))
  (HW : Wk ks W w6) (K6 : Blk w6 b4 219 x.cells) (KZ : Blk w13 b4 219 x.cells) (hok : OkP x.p) (HH : Bel w6 w13) (hc : x'.cells = [v0, v1, v2, v3, v4, v5, v6, v7, v8, v9, va, vb]) (M : x'.Dv w13)
  (hJ : V1.Abides (J (pre ++ [x]))) (HJ : J (pre ++ [x]) O w6) (hbO : b4 ∈ O) (hO : ∀ q ∈ O, W.heap.size ≤ q) (HL : pre.length + 1 < N) :
  At J ks W w N b4 (N - (pre.length + 1)) (set12 w13 b4 v0 v1 v2 v3 v4 v5 v6 v7 v8 v9 va vb) := by
 have hN6 := ni_pc K6 hok
 have hN13 := ni_pc KZ hok
 have hW4 := hO b4 hbO
 have hsz0 := HH.size
 obtain ⟨u0, u1, u2, u3, u4, u5, u6, u7, u8, u9, ua, ub, hx⟩ : ∃ u0 u1 u2 u3 u4 u5 u6 u7 u8 u9 ua ub, x.cells = [u0, u1, u2, u3, u4, u5, u6, u7, u8, u9, ua, ub] := ⟨_, _, _, _, _, _, _, _, _, _, _, _, rfl⟩
 rw [hx] at KZ
 have KF := blk_set12 KZ v0 v1 v2 v3 v4 v5 v6 v7 v8 v9 va vb
 rw [← hc] at KF
 have hoth : ∀ k, k ≠ b4 → (set12 w13 b4 v0 v1 v2 v3 v4 v5 v6 v7 v8 v9 va vb).heap[k]? = w13.heap[k]? := fun k hne => set12_other hne _ _ _ _ _ _ _ _ _ _ _ _
 have hsz : w6.heap.size ≤ (set12 w13 b4 v0 v1 v2 v3 v4 v5 v6 v7 v8 v9 va vb).heap.size := by rw [set12_size]; exact hsz0
 have hfr : (set12 w13 b4 v0 v1 v2 v3 v4 v5 v6 v7 v8 v9 va vb).os = w6.os ∧ (set12 w13 b4 v0 v1 v2 v3 v4 v5 v6 v7 v8 v9 va vb).tape = w6.tape ∧ (set12 w13 b4 v0 v1 v2 v3 v4 v5 v6 v7 v8 v9 va vb).output = w6.output := by
  obtain ⟨e1, e2, e3⟩ := set12_fr w13 b4 v0 v1 v2 v3 v4 v5 v6 v7 v8 v9 va vb
  exact ⟨e1.trans HH.out.os, e2.trans HH.out.tape, e3.trans HH.out.output⟩
 obtain ⟨wf, hwf⟩ : ∃ wf, set12 w13 b4 v0 v1 v2 v3 v4 v5 v6 v7 v8 v9 va vb = wf := ⟨_, rfl⟩
 rw [hwf] at KF hoth hsz hfr ⊢
 have DF : x'.Dv wf := M.keep fun k hk => by
  by_cases e : k = b4
  ·subst e; exact .inr hN13
  ·exact .inl (hoth k e)
 have ho6 : ∀ k, k < w6.heap.size → k ≠ b4 → wf.heap[k]? = w6.heap[k]? := fun k hk hne => (hoth k hne).trans (HH.out.block k hk)
 have hst : St O w6 wf := ⟨hfr.1, hfr.2.1, hfr.2.2, hsz, fun k hk => by
  by_cases e : k = b4
  ·subst e; exact .inr ⟨hbO, hN6⟩
  ·exact .inl (ho6 k hk e)⟩
 have hJf := hJ O w6 O wf HJ hst (fun _ h => h) (fun _ h => .inl h)
 have hwkf : Wk ks W wf := ⟨Nat.le_trans HW.size hsz, fun k hk => (HW.block k hk).imp (fun e => (ho6 k (Nat.lt_of_lt_of_le hk HW.size) (by omega)).trans e) id⟩
 exact ⟨pre ++ [x], O, x', by simp, by simp; exact HL, by rw [List.length_append, List.length_singleton]; exact hp, hJf, hwkf, KF, DF, hbO, hO⟩
theorem halves1 {ks : List Nat} {N w bw : Nat} {wi : Int} (n l : Nat) (hn : 1 ≤ n) (W : World) (T : Tab W) (KW : Blk W bw 3 [.int .i64 wi]) (hw : w ≤ 3000) (hwi : (w : Int) = wi) (hkw : bw ∉ ks) (hk2 : 1 ∉ ks) (hN : 1 ≤ N)
  (HP : ∀ j, j < N → HvP w j) (h1s : 0 ≤ sgn (ishift T0.one (-1)).1) :
  SeqB Tryz.prog n l 209 #[.pointer (some ⟨bw, 0, none⟩)] Pc.enc ks N (fun pre x W1 => x.p = halvesP w pre.length ∧ x.Dv W1) (fun _ => False) (fun _ => True) W True := by
 intro J Jx hBd hJ hJx hY h0
 have TT := Ho.mk T
 have HKW := Ho.mk KW
 have HY := Ho.mk hY
 have H0 := Ho.mk h0
 have HB := Ho.mk (hBd trivial)
 have HHP := Ho.mk HP
 have HV0 := Ho.mk (hv_zero (HP 0 (by omega)))
 have HS1 := Ho.mk h1s
 clear T KW hY h0 hBd HP h1s
 refine callsIn_wide.2 ?_
 go_enter Tryz.func209, Tryz.ntmps209
 go_wp2_with fail
 (with_reducible refine (dOne _ TT.out).mono ?_); rintro e w1 ⟨A1, c1, B1, d1, rfl, n1, m1, b1⟩
 go_wp2_with fail
 (with_reducible refine (C4.dHalf (r := halfRoot T0.one w) _ (TT.out.bel b1) n1 m1 (by omega) (by omega) (HKW.out.bel b1) hw hwi HS1.out half_parts.1 HV0.out.1 half_parts.2 HV0.out.2).mono ?_); rintro e w2 ⟨A2, c2, B2, d2, rfl, n2, m2, b2⟩
 go_wp2_with fail
 (with_reducible refine (dOne _ (TT.out.bel (b1.trans b2))).mono ?_); rintro e w3 ⟨A3, c3, B3, d3, rfl, n3, m3, b3⟩
 go_wp2_with fail
 (with_reducible refine (C4.dHalf (r := halfRoot T0.one w) _ (TT.out.bel ((b1.trans b2).trans b3)) n3 m3 (by omega) (by omega) (HKW.out.bel ((b1.trans b2).trans b3)) hw hwi HS1.out half_parts.1 HV0.out.1 half_parts.2 HV0.out.2).mono ?_); rintro e w4 ⟨A4, c4, B4, d4, rfl, n4, m4, b4⟩
 obtain ⟨x, hx⟩ : ∃ x : Pc, x = ⟨A2, c2, B2, d2, A4, c4, B4, d4, halvesP w 0⟩ := ⟨_, rfl⟩
 have bb := ((b1.trans b2).trans b3).trans b4
 have DX := Ho.mk (show x.Dv (w4.alloc (.cells x.cells.toArray 219)) from by
  rw [hx]
  exact ⟨(n2.bel (b3.trans b4)).bel ((Bel.refl _).alloc _), (m2.bel (b3.trans b4)).bel ((Bel.refl _).alloc _), n4.bel ((Bel.refl _).alloc _), m4.bel ((Bel.refl _).alloc _)⟩)
 have KX := Ho.mk (Blk.new w4 x.cells 219)
 have hJ0 := Ho.mk (hJ _ _ _ [w4.heap.size] _ H0.out (St.of_bel (bb.alloc (.cells x.cells.toArray 219)) _) (by simp) (by intro q hq; simp at hq; right; subst hq; have := bb.size; simp only [World.size_alloc]; omega))
 have hw0 := Ho.mk ((Wk.refl ks W).bel (bb.alloc (.cells x.cells.toArray 219)))
 have hb4 : W.heap.size ≤ w4.heap.size := bb.size
 have HX := Ho.mk (show x.p = halvesP w 0 from by rw [hx])
 have hcs : x.cells.toArray = #[.bool (dneg (halfRoot T0.one w).1), .slice A2 (digs (dm (halfRoot T0.one w).1)).length c2, .int .i64 (de (halfRoot T0.one w).1), .bool (dneg (halfRoot T0.one w).2), .slice B2 (digs (dm (halfRoot T0.one w).2)).length d2, .int .i64 (de (halfRoot T0.one w).2), .bool (dneg (halfRoot T0.one w).1), .slice A4 (digs (dm (halfRoot T0.one w).1)).length c4, .int .i64 (de (halfRoot T0.one w).1), .bool (dneg (halfRoot T0.one w).2), .slice B4 (digs (dm (halfRoot T0.one w).2)).length d4, .int .i64 (de (halfRoot T0.one w).2)] := by rw [hx]; rfl
 rw [hcs] at DX KX hJ0 hw0
 clear n1 m1 b1 n2 m2 b2 n3 m3 b3 n4 m4 b4 bb
 go_wp2_with fail
 generalize w4.alloc (.cells #[.bool (dneg (halfRoot T0.one w).1), .slice A2 (digs (dm (halfRoot T0.one w).1)).length c2, .int .i64 (de (halfRoot T0.one w).1), .bool (dneg (halfRoot T0.one w).2), .slice B2 (digs (dm (halfRoot T0.one w).2)).length d2, .int .i64 (de (halfRoot T0.one w).2), .bool (dneg (halfRoot T0.one w).1), .slice A4 (digs (dm (halfRoot T0.one w).1)).length c4, .int .i64 (de (halfRoot T0.one w).1), .bool (dneg (halfRoot T0.one w).2), .slice B4 (digs (dm (halfRoot T0.one w).2)).length d4, .int .i64 (de (halfRoot T0.one w).2)] 219) = w5 at *
 generalize w4.heap.size = b4 at *
 have HRR := Ho.mk (show At J ks W w N b4 (N - 0) w5 from ⟨[], [b4], x, rfl, by simp; omega, HX.out, hJ0.out, hw0.out, KX.out, DX.out, by simp, by intro q hq; simp at hq; omega⟩)
 clear hcs hx
 clear hJ0 hw0 KX DX HX H0 HV0 HS1
 refine (wpIn_wide (n := n)).1 ?_
 gi_loopw [] (fun wr => ∃ m, Ho (At J ks W w N b4 m wr)) (fun wr => leastN (fun m => At J ks W w N b4 m wr))
 case atStart => exact ⟨_, HRR⟩
 case round =>
  clear HRR
  obtain ⟨m0, hrel⟩ := hrel
  obtain ⟨hm1, hm2⟩ := leastN_spec (p := fun m => At J ks W w N b4 m wr) hrel.out
  obtain ⟨pre, O, x, hm, hlen, hx, hj, hwk, hK, hD, hbO, hO⟩ := hm1
  have HM := Ho.mk hm
  have HX := Ho.mk hx
  have HJ := Ho.mk hj
  have HWK := Ho.mk hwk
  have HK := Ho.mk hK
  have HD := Ho.mk hD
  have HL := Ho.mk hlen
  clear hm hx hj hwk hD hlen hrel
  unfold Pc.cells at hK
  obtain ⟨y0, y1, y2, y3, y4, y5, y6, y7, y8, y9, y10, y11⟩ := hK.c12
  clear hK
  gi_wp2_with fail
  have HM2 := Ho.mk hm2
  clear hm2
  obtain ⟨fn, tmps, assign, body, hy, hR⟩ := HY.out pre O x wr HJ.out HL.out ⟨HX.out, HD.out⟩ hO HWK.out.size
  dsimp only [Pc.enc] at hy
  rw [hy]
  gi_wp2
  refine hR.mono ?_
  clear hR hy
  clear y0 y1 y2 y3 y4 y5 y6 y7 y8 y9 y10 y11
  rintro e w6 (⟨rfl, hJ4, hY4⟩ | ⟨rfl, hJ4, hY4⟩)
  ·have HW6 := Ho.mk (HWK.out.yd hY4)
   have T6 := Ho.mk (HW6.out.tab hk2 TT.out)
   have KW6 := Ho.mk (HW6.out.blk hkw HKW.out)
   have K6 := Ho.mk (yd_blk hY4 hbO HK.out)
   have D6 := Ho.mk (HD.out.keepL (by rw [HX.out]; exact (HHP.out pre.length HL.out).lg) hY4.st)
   have hl1 := HB.out _ _ _ hJ4
   rw [List.length_append, List.length_singleton] at hl1
   have HL1 := Ho.mk hl1
   have HV1 := Ho.mk (HHP.out pre.length HL.out)
   have HV2 := Ho.mk (hv_succ (HHP.out (pre.length + 1) hl1))
   have HOK := Ho.mk (HHP.out pre.length HL.out).ok
   have HOK2 := Ho.mk (HHP.out (pre.length + 1) hl1).ok
   have s1 := Ho.mk HV1.out.s1
   have s2 := Ho.mk HV1.out.s2
   rw [← HX.out] at s1 s2 HV2 HOK
   have HJ4 := Ho.mk hJ4
   clear hJ4 hY4 hl1 HV1 HWK HK HD HJ
   have hK := K6.out
   unfold Pc.cells at hK
   obtain ⟨y0, y1, y2, y3, y4, y5, y6, y7, y8, y9, y10, y11⟩ := hK.c12
   clear hK
   gi_wp2_with fail
   refine wpIn_wide.2 ?_
   refine I7.wp_region_late 14 (S := fun w' => Bel w6 w') (by kernel_rfl) (Bel.refl _).drew (fun hHeld => ?_)
   (try dsimp only at hHeld)
   refine I7.kt (i := 0) hHeld ?_
   refine I7.kt (i := 2) hHeld ?_
   refine I7.kl (i := 3) (v := ?_) hHeld (fun w hSw => ?_) ?_
   rotate_left
   ·(have z0 := hSw.cell y0; have z1 := hSw.cell y1; have z2 := hSw.cell y2; have z3 := hSw.cell y3; have z4 := hSw.cell y4; have z5 := hSw.cell y5; go_simp; try (with_reducible rfl))
   refine I7.kt (i := 6) hHeld ?_
   refine I7.kt (i := 8) hHeld ?_
   refine I7.kl (i := 9) (v := ?_) hHeld (fun w hSw => ?_) ?_
   rotate_left
   ·(have z0 := hSw.cell y0; have z1 := hSw.cell y1; have z2 := hSw.cell y2; have z3 := hSw.cell y3; have z4 := hSw.cell y4; have z5 := hSw.cell y5; go_simp; try (with_reducible rfl))
   try simp only [Act.put, Ow.zS, Ow.zC, Ow.zD]
   refine I7.kc (i := 1) (fun K hK => ?_)
   go_simp
   go_at_call 196
   (with_reducible refine (dOne _ (T6.out.bel hHeld)).mono ?_); rintro e w7 ⟨A1, c1, B1, d1, rfl, n1, m1, b7⟩
   try go_wp2_with fail
   refine hK.out _ _ (Bel.trans hHeld b7) (fun hHeld => ?_)
   clear hK K
   try simp only [Act.put, Ow.zS, Ow.zC, Ow.zD]
   refine I7.kc (i := 4) (fun K hK => ?_)
   go_simp
   go_at_call 213
   (with_reducible refine (I1.dAdd _ (T6.out.bel hHeld) n1 m1 (by omega) (by omega) (D6.out.k1.bel hHeld) (D6.out.k2.bel hHeld) (by omega) (by omega)).mono ?_); rintro e w8 ⟨A2, c2, B2, d2, rfl, n2, m2, b8⟩
   try go_wp2_with fail
   refine hK.out _ _ (Bel.trans hHeld b8) (fun hHeld => ?_)
   clear hK K
   try simp only [Act.put, Ow.zS, Ow.zC, Ow.zD]
   refine I7.kc (i := 5) (fun K hK => ?_)
   go_simp
   go_at_call 210
   (with_reducible refine (C4.dHalf (r := halfRoot (iadd T0.one x.p.1) w) _ (T6.out.bel hHeld) n2 m2 (by omega) (by omega) (KW6.out.bel hHeld) hw hwi s1.out half_parts.1 HV2.out.1 half_parts.2 HV2.out.2.1).mono ?_); rintro e w9 ⟨A3, c3, B3, d3, rfl, n3, m3, b9⟩
   try go_wp2_with fail
   refine hK.out _ _ (Bel.trans hHeld b9) (fun hHeld => ?_)
   clear hK K
   try simp only [Act.put, Ow.zS, Ow.zC, Ow.zD]
   refine I7.kc (i := 7) (fun K hK => ?_)
   go_simp
   go_at_call 196
   (with_reducible refine (dOne _ (T6.out.bel hHeld)).mono ?_); rintro e w10 ⟨A4, c4, B4, d4, rfl, n4, m4, b10⟩
   try go_wp2_with fail
   refine hK.out _ _ (Bel.trans hHeld b10) (fun hHeld => ?_)
   clear hK K
   try simp only [Act.put, Ow.zS, Ow.zC, Ow.zD]
   refine I7.kc (i := 10) (fun K hK => ?_)
   go_simp
   go_at_call 179
   (with_reducible refine (I1.dFlip _ (T6.out.bel hHeld) (D6.out.k1.bel hHeld) (D6.out.k2.bel hHeld) (by omega) (by omega)).mono ?_); rintro e w11 ⟨A5, c5, B5, d5, rfl, n5, m5, b11⟩
   try go_wp2_with fail
   refine hK.out _ _ (Bel.trans hHeld b11) (fun hHeld => ?_)
   clear hK K
   try simp only [Act.put, Ow.zS, Ow.zC, Ow.zD]
   refine I7.kc (i := 11) (fun K hK => ?_)
   go_simp
   go_at_call 213
   (with_reducible refine (I1.dAdd _ (T6.out.bel hHeld) (n4.bel b11) (m4.bel b11) (by omega) (by omega) n5 m5 (by omega) (by omega)).mono ?_); rintro e w12 ⟨A6, c6, B6, d6, rfl, n6, m6, b12⟩
   try go_wp2_with fail
   refine hK.out _ _ (Bel.trans hHeld b12) (fun hHeld => ?_)
   clear hK K
   try simp only [Act.put, Ow.zS, Ow.zC, Ow.zD]
   refine I7.kc (i := 12) (fun K hK => ?_)
   go_simp
   go_at_call 210
   (with_reducible refine (C4.dHalf (r := halfRoot (iadd T0.one (iflip x.p.1)) w) _ (T6.out.bel hHeld) n6 m6 (by omega) (by omega) (KW6.out.bel hHeld) hw hwi s2.out half_parts.1 HV2.out.2.2.1 half_parts.2 HV2.out.2.2.2).mono ?_); rintro e w13 ⟨A7, c7, B7, d7, rfl, n7, m7, b13⟩
   try go_wp2_with fail
   refine hK.out _ _ (Bel.trans hHeld b13) (fun hHeld => ?_)
   clear hK K
   refine I7.kt (i := 13) hHeld ?_
   have KZ := Ho.mk (K6.out.bel hHeld)
   have HH := Ho.mk hHeld
   have M1 := Ho.mk (n3.bel (((b10.trans b11).trans b12).trans b13))
   have M2 := Ho.mk (m3.bel (((b10.trans b11).trans b12).trans b13))
   have M3 := Ho.mk n7
   have M4 := Ho.mk m7
   clear y0 y1 y2 y3 y4 y5 y6 y7 y8 y9 y10 y11 hHeld n1 m1 n2 m2 n3 m3 n4 m4 n5 m5 n6 m6 n7 m7 b7 b8 b9 b10 b11 b12 b13
   have hK := KZ.out
   unfold Pc.cells at hK
   obtain ⟨y0, y1, y2, y3, y4, y5, y6, y7, y8, y9, y10, y11⟩ := hK.c12
   have z0 := hK.free 0
   have z1 := hK.free 1
   have z2 := hK.free 2
   have z3 := hK.free 3
   have z4 := hK.free 4
   have z5 := hK.free 5
   have z6 := hK.free 6
   have z7 := hK.free 7
   have z8 := hK.free 8
   have z9 := hK.free 9
   have z10 := hK.free 10
   have z11 := hK.free 11
   clear hK
   try simp only [Act.put, Ow.zS, Ow.zC, Ow.zD]
   refine I7.ke (i := 14) (fun K hK => ?_)
   go_simp
   refine hK.out _ _ ?_
   clear hK K
   try simp only [Act.put, Ow.zS, Ow.zC, Ow.zD]
   refine wpAny_done (by kernel_rfl) ?_ _
   have hpn : ((halfRoot (iadd T0.one x.p.1) w, halfRoot (iadd T0.one (iflip x.p.1)) w) : Pt) = halvesP w (pre.length + 1) := by rw [HX.out]; rfl
   have hAt := Ho.mk (half_step (x' := ⟨A3, c3, B3, d3, A7, c7, B7, d7, (halfRoot (iadd T0.one x.p.1) w, halfRoot (iadd T0.one (iflip x.p.1)) w)⟩) hpn HW6.out K6.out KZ.out HOK.out HH.out rfl ⟨M1.out, M2.out, M3.out, M4.out⟩ (hJ _) HJ4.out hbO hO HL1.out)
   obtain ⟨wf, hwf⟩ : ∃ wf, set12 w13 b4 (.bool (dneg (halfRoot (iadd T0.one x.p.1) w).1)) (.slice A3 (digs (dm (halfRoot (iadd T0.one x.p.1) w).1)).length c3) (.int .i64 (de (halfRoot (iadd T0.one x.p.1) w).1)) (.bool (dneg (halfRoot (iadd T0.one x.p.1) w).2)) (.slice B3 (digs (dm (halfRoot (iadd T0.one x.p.1) w).2)).length d3) (.int .i64 (de (halfRoot (iadd T0.one x.p.1) w).2)) (.bool (dneg (halfRoot (iadd T0.one (iflip x.p.1)) w).1)) (.slice A7 (digs (dm (halfRoot (iadd T0.one (iflip x.p.1)) w).1)).length c7) (.int .i64 (de (halfRoot (iadd T0.one (iflip x.p.1)) w).1)) (.bool (dneg (halfRoot (iadd T0.one (iflip x.p.1)) w).2)) (.slice B7 (digs (dm (halfRoot (iadd T0.one (iflip x.p.1)) w).2)).length d7) (.int .i64 (de (halfRoot (iadd T0.one (iflip x.p.1)) w).2)) = wf := ⟨_, rfl⟩
   rw [hwf] at hAt
   have hls : leastN (fun m => At J ks W w N b4 m wf) < leastN (fun m => At J ks W w N b4 m wr) := by
    have h1 := (leastN_spec (p := fun m => At J ks W w N b4 m wf) hAt.out).2 _ hAt.out
    have h2 := HM.out
    have h3 := HL1.out
    omega
   have HLS := Ho.mk hls
   clear hls hpn
   unfold set12 at hwf
   rw [hwf]
   clear hwf
   gi_wp2
   go_roundw
   case rel => exact ⟨_, hAt⟩
   case measure => exact HLS.out
  ·gi_wp2
   --@@
   go_end0
   exact ⟨⟨_, rfl⟩, .inr ⟨_, O, trivial, hJ4, hO⟩⟩
end C5
namespace Nd
open Go.RowKit Go.Shelf Go.Proofs Go.Proofs.YtalbgklfhabnkaaGreatDoor Ow Pl
attribute [local go_sem] Oper.semAt_some
def upto {α : Type} (f : Nat → α) (k : Nat) : List α := (List.range k).map f
theorem upto_succ {α : Type} (f : Nat → α) (k : Nat) : upto f (k + 1) = upto f k ++ [f k] := by simp [upto, List.range_succ]
theorem upto_length {α : Type} (f : Nat → α) (k : Nat) : (upto f k).length = k := by simp [upto]
def back (l : List Int) (t : Nat) : Int × Int := ((l.length - 1 - t : Nat), nth l (l.length - 1 - t))
structure Kx (m b : Nat) (W W' : World) : Prop where
 blk : ∀ k, k < m → k ≠ b → W'.heap[k]? = W.heap[k]?
theorem Kx.refl (m b : Nat) (W : World) : Kx m b W W := ⟨fun _ _ _ => rfl⟩
theorem Kx.trans {m b : Nat} {A B C : World} (h : Kx m b A B) (k : Kx m b B C) : Kx m b A C := ⟨fun i h1 h2 => (k.blk i h1 h2).trans (h.blk i h1 h2)⟩
theorem Kx.cell {m b : Nat} {A B : World} (h : Kx m b A B) {p : Addr} (h1 : p.block < m) (h2 : p.block ≠ b) : B.cell? p = A.cell? p := by
 unfold World.cell?; rw [h.blk _ h1 h2]
theorem Kx.put {m b : Nat} {w : World} (hm : m ≤ w.heap.size) (W : World) (l : Nat) (o o' : Obj) (hl : w.heap.size ≤ l) : Kx m b W (W.putObj l o') :=
 ⟨fun k h1 _ => World.putObj_heap_other (by omega)⟩
theorem rd_kx {m b n₀ : Nat} {W W' : World} {A : Option Addr} {l : List Int} (h : RdB n₀ W A l) (k : Kx m b W W') (h1 : n₀ ≤ m) (h2 : n₀ ≤ b) : Rd W' A l :=
 ⟨h.rd.max, fun j hj => by
  obtain ⟨ad, e, hc⟩ := h.rd.cell j hj
  have := h.lt ad e (by omega)
  exact ⟨ad, e, (k.cell (by rw [add_block]; omega) (by rw [add_block]; omega)).trans hc⟩⟩
theorem back1_in (F : Fence) (n : Nat) (h51 : F.fn 200) (hro : F.round = none) (hn : 1 ≤ n) (lp Bs n₀ m b c : Nat) (hm1 : n₀ ≤ m) (hm2 : n₀ ≤ b) (A : Option Addr) (l : List Int) (hml : l.length ≤ 35184372088831) (J Jx : List (Int × Int) → World → Prop)
  (hY : ∀ pre x W, J pre W → pre.length < l.length → YieldAt F (n - 1) Tryz.prog lp #[.int .i64 x.1, .int .i64 x.2] W fun e W' =>
   (e = .returned (.bool true) ∧ J (pre ++ [x]) W' ∧ Kx m b W W') ∨ (e = .returned (.bool false) ∧ Jx (pre ++ [x]) W'))
  (W : World) (hBs : W.cell? ⟨Bs, 0, none⟩ = some (.slice A l.length c)) (hBn : Bs < m) (hBb : Bs ≠ b) (hl : RdB n₀ W A l) (h0 : J [] W) :
  CallsIn F n Tryz.prog 200 #[.func (.yield lp) #[] #[], .pointer (some ⟨Bs, 0, none⟩)] W fun e W' => (∃ v, e = .returned v) ∧
   ((∃ ys, ys = upto (back l) l.length ∧ J ys W') ∨ (∃ pre, (∃ k, k ≤ l.length ∧ pre = upto (back l) k) ∧ Jx pre W')) := by
 refine callsIn_of_wp Tryz.func200 rfl h51 ?_ hro
 simp only [Tryz.ntmps200, List.size_toArray, List.length_cons, List.length_nil, Nat.reduceAdd, Nat.reduceSub, Array.replicate_succ, Array.replicate_zero, List.push_toArray, List.append_toArray, List.nil_append, List.cons_append]
 have HL := Ho.mk hl
 clear hl
 gi_wp2
 gi_loopw [3] (fun i wr => ∃ (k : Nat) (j : Int), k ≤ l.length ∧ i = .int .i64 j ∧ -1 ≤ j ∧ j < l.length ∧ Ho (j = (l.length : Int) - 1 - k) ∧ J (upto (back l) k) wr ∧ Kx m b W wr)
  (fun i _ => (intOf i + 1).toNat)
 case atStart => exact ⟨0, _, Nat.zero_le _, rfl, by omega, by omega, ⟨by omega⟩, h0, Kx.refl _ _ _⟩
 case round =>
  obtain ⟨k, j, hk, rfl, hj0, hj1, hjk, hJs, hnx⟩ := hrel
  have hBs' : wr.cell? ⟨Bs, 0, none⟩ = some (.slice A l.length c) := (hnx.cell (p := ⟨Bs, 0, none⟩) hBn hBb).trans hBs
  rcases Int.lt_or_le j 0 with hneg | hpos
  ·have hkl : Ho (k = l.length) := ⟨by have := hjk.out; omega⟩
   gi_wp2
   go_end0
   rw [hkl.out] at hJs
   exact ⟨⟨_, rfl⟩, .inl ⟨_, rfl, hJs⟩⟩
  ·obtain ⟨t, rfl⟩ := Int.eq_ofNat_of_zero_le hpos
   have htk : Ho (back l k = ((t : Int), nth l t)) := ⟨by
    have : t = l.length - 1 - k := by have := hjk.out; omega
    rw [this]; rfl⟩
   have hkl : k < l.length := by have := hjk.out; omega
   have htl : t < l.length := by omega
   obtain ⟨ad, rfl, x0⟩ := (rd_kx HL.out hnx hm1 hm2).cell t htl
   obtain ⟨fn, tmps, assign, body, hy, hR⟩ := hY _ ((t : Int), nth l t) wr hJs (by rw [upto_length]; exact hkl)
   dsimp only at hy
   gi_wp2
   refine hR.mono ?_
   rintro e W3 (⟨rfl, hJ3, hk3⟩ | ⟨rfl, hJx3⟩)
   ·gi_wp2
    go_roundw
    case rel => exact ⟨k + 1, (t : Int) - 1, by omega, rfl, by omega, by omega, ⟨by have := hjk.out; omega⟩, by rw [upto_succ, htk.out]; exact hJ3, hnx.trans hk3⟩
    case measure => simp [intOf]
   ·gi_wp2
    refine bodyPost_ret (results_none rfl _ _ _) rfl ?_
    exact ⟨⟨_, rfl⟩, .inr ⟨_, ⟨k + 1, by omega, by rw [upto_succ, htk.out]⟩, hJx3⟩⟩
theorem back_in (F : Fence) (n : Nat) (h : F.fn 185) (hro : F.round = none) (a : Option Addr) (len cap : Nat) (w : World) :
  CallsIn F n Tryz.prog 185 #[.slice a len cap] w fun e w' => e = .returned (.func (.func 200) #[] #[.pointer (some ⟨w.heap.size, 0, none⟩)]) ∧ w' = w.alloc (.cells #[.slice a len cap] 35) := by
 refine callsIn_of_wp Tryz.func185 rfl h ?_ hro
 simp only [Tryz.ntmps185, List.size_toArray, List.length_cons, List.length_nil, Nat.reduceAdd, Nat.reduceSub, Array.replicate_succ, Array.replicate_zero, List.push_toArray, List.append_toArray, List.nil_append, List.cons_append]
 gi_wp2
 go_ret
 exact ⟨rfl, rfl⟩
theorem back_stops (F : Fence) (n : Nat) (h51 : F.fn 200) (hro : F.round = none) (hn : 1 ≤ n) (Bs n₀ m b c : Nat) (hm1 : n₀ ≤ m) (hm2 : n₀ ≤ b) (A : Option Addr) (l : List Int) (hml : l.length ≤ 35184372088831) (w : World) (hm : m ≤ w.heap.size)
  (hBs : w.cell? ⟨Bs, 0, none⟩ = some (.slice A l.length c)) (hBn : Bs < m) (hBb : Bs ≠ b) (hl : RdB n₀ w A l) :
  SeqStopsK F n Tryz.prog 200 #[.pointer (some ⟨Bs, 0, none⟩)] (fun x : Int × Int => #[Value.int .i64 x.1, Value.int .i64 x.2]) (Kx m b) (fun ys => ys = upto (back l) l.length)
   (fun pre => ∃ k, k ≤ l.length ∧ pre = upto (back l) k) l.length w := fun lp J Jx W hW _ _ hY h0 =>
 back1_in F n h51 hro hn lp Bs n₀ m b c hm1 hm2 A l hml J Jx hY W ((hW.cell (p := ⟨Bs, 0, none⟩) (by simp only; omega)).trans hBs) hBn hBb ⟨hl.below (hW.mono (by omega)), hl.lt⟩ h0
def stepI (n x : Int) : Int := bits .or .i64 (wrap64 (n * 16777216)) x
def foldI (pre : List (Int × Int)) : Int := pre.foldl (fun n x => stepI n x.2) 0
theorem foldI_snoc (pre : List (Int × Int)) (x : Int × Int) : foldI (pre ++ [x]) = stepI (foldI pre) x.2 := by simp [foldI]
theorem foldI_upto (l : List Int) (hl : Lims l) (hv : val l < 4611686018427387904) : ∀ k, k ≤ l.length → foldI (upto (back l) k) = val (l.drop (l.length - k)) := by
 intro k
 induction k with
 | zero => intro _; simp [upto, foldI, val]
 | succ k ih =>
  intro hk
  have e := ih (by omega)
  have hd := drop_step l (l.length - (k + 1))
  rw [show l.length - (k + 1) + 1 = l.length - k from by omega] at hd
  rw [upto_succ, foldI_snoc, e, hd]
  show stepI (val (l.drop (l.length - k))) (nth l (l.length - 1 - k)) = _
  rw [show l.length - 1 - k = l.length - (k + 1) from by omega]
  have h1 := val_drop_le hl (l.length - (k + 1))
  rw [hd] at h1
  have h2 := hl.nth (l.length - (k + 1))
  have h3 := val_nonneg (hl.drop (l.length - k))
  generalize val (l.drop (l.length - k)) = v at h1 h3 ⊢
  generalize nth l (l.length - (k + 1)) = x at h1 h2 ⊢
  unfold stepI
  rw [wrap_id (by omega) (by omega), show bits .or .i64 (v * 16777216) x = bits .or .i64 x (v * 16777216) from by simp only [bits, BitVec.or_comm], or_low 24 (by decide) h2.1 (by omega) (by omega) (by omega) (by omega)]
  omega
theorem intYes_in (F : Fence) (n : Nat) (h18 : F.fn 166) (h26 : F.fn 154) (h41 : F.fn 185) (h51 : F.fn 200) (hro : F.round = none) (hn : 3 ≤ n) (A : Option Addr) (c x : Nat) (w : World) (h : Rd w A (digs x)) (hx : blen x ≤ 62)
  (hlen : ∀ W, Rd W A (digs x) → CallsIn F (n - 1) Tryz.prog 154 #[.slice A (digs x).length c] W fun e w' => e = .returned (.int .i64 (blen x)) ∧ W = w') :
  CallsIn F n Tryz.prog 166 #[.slice A (digs x).length c] w fun e W' => e = .returned (.tuple #[.int .i64 (x : Int), .bool true]) ∧ Bel w W' := by
 have h1 : 1 ≤ n := by omega
 have hm := h.max
 have HV : Ho (foldI (upto (back (digs x)) (digs x).length) = (x : Int)) := ⟨by
  have hv : val (digs x) < 4611686018427387904 := by
   rw [digs_val]; have := blen_le.1 hx; have e : (2 : Nat) ^ 62 = 4611686018427387904 := by decide
   omega
  rw [foldI_upto _ (digs_can x).1 hv _ (Nat.le_refl _), Nat.sub_self, List.drop_zero, digs_val]⟩
 have hd : decide (((blen x : Nat) : Int) > 62) = false := decide_eq_false (by omega)
 have HC := Ho.mk hlen
 have HR := Ho.mk h.rdB
 clear hlen hx
 generalize digs x = l at *
 generalize blen x = bl at *
 refine callsIn_of_wp_marks Tryz.func166 rfl h18 ?_ hro
 simp only [Tryz.ntmps166, List.size_toArray, List.length_cons, List.length_nil, Nat.reduceAdd, Nat.reduceSub, Array.replicate_succ, Array.replicate_zero, List.push_toArray, List.append_toArray, List.nil_append, List.cons_append]
 gi_wp2_with (first | (gi_at_call 154; refine (HC.out _ HR.out.rd).mono ?_; rintro e w' ⟨rfl, rfl⟩) | (gi_at_call 185; refine (back_in F (n - 1) h41 hro _ _ _ _).mono ?_; rintro e w' ⟨rfl, rfl⟩))
 have bS := Boxed.new w 3 (.int .i64 0)
 have bN := Boxed.new (w.alloc (.cells #[.int .i64 0] 3)) 35 (.slice A l.length c)
 rw [World.size_alloc] at bN
 have hB0 : Below w.heap.size w ((w.alloc (.cells #[.int .i64 0] 3)).alloc (.cells #[.slice A l.length c] 35)) := ((Below.refl _ w).alloc (Nat.le_refl _) _).alloc (by simp) _
 refine wpIn_rangeFunc_ownF hro h1 (gf := 200) (lb := #[.pointer (some ⟨w.heap.size + 1, 0, none⟩)]) rfl h51 (enters_of Tryz.func200 (by kernel_rfl) rfl)
  (back_stops F (n - 1) h51 hro (by omega) (w.heap.size + 1) w.heap.size (w.heap.size + 2) w.heap.size c (by omega) (Nat.le_refl _) A l hm _ (by simp) bN.cell (by omega) (by omega) ⟨HR.out.below hB0, HR.out.lt⟩)
  Kx.trans (fun W l' o o' hl' _ _ _ => Kx.put (by simp) W l' o o' hl') (Below.refl _ _) (fun _ => rfl)
  (fun pre W => (W.cell? ⟨w.heap.size, 0, none⟩ = some (.int .i64 (foldI pre)) ∧ W.frozen? ⟨w.heap.size, 0, none⟩ = false) ∧ Below w.heap.size w W)
  (fun _ _ _ => False)
  (OwnFrom.and (Go.Own.from (fun s A B row hs hg hr => ⟨cell_kept hs.1 hg hr, (frozen_kept hs.1 hg hr).trans hs.2⟩) _) (ownFrom_below (Nat.le_refl _) (by simp; omega)))
  (fun _ _ _ _ _ hs _ _ => hs)
  ⟨⟨(bS.alloc _).cell, (bS.alloc _).frozen⟩, hB0⟩
  (fun y => { tmps := #[.slice A l.length c, undef, .int .i64 0, .bool false, .pointer (some ⟨w.heap.size, 0, none⟩), undef, .int .i64 y.2, .slice A l.length c, .int .i64 bl, .bool false, .slice A l.length c, .func (.func 200) #[] #[.pointer (some ⟨w.heap.size + 1, 0, none⟩)], .int .i64 y.1, .int .i64 y.2, undef, undef, undef, undef, undef], defers := [] }) ?assign ?body ?done ?stop
 case assign =>
  intro l' y W K hK
  gi_wp2
  exact hK
 case body =>
  rintro l' pre y W ⟨⟨hc, hf⟩, hB⟩ _
  gi_wp2
  exact ⟨KeepsOthers.setCell _ _ _, ⟨fun k _ hne => Below.heap_setCell _ _ _ _ hne⟩, ⟨by rw [foldI_snoc]; exact World.cell?_setCell_same' _ _ _ (by rw [hc]; rfl), by rw [World.frozen?_setCell]; exact hf⟩, hB.setCell (p := ⟨w.heap.size, 0, none⟩) (Nat.le_refl _) _⟩
 case done =>
  rintro D ys W hD rfl ⟨⟨hc, _⟩, hB⟩ hK
  rw [HV.out] at hc
  gi_wp2
  refine ⟨by simp, .inl ⟨_, _, rfl, run_takeDeferred hK, ?_⟩⟩
  exact ⟨.tuple #[.int .i64 (x : Int), .bool true], by simp [results, Tryz.f166, go_sem], rfl, ⟨hB.trans (belowK_b (w := w) (Nat.le_refl _) W D _ _ (by simp at hD; omega) hK rfl rfl)⟩⟩
 case stop =>
  rintro D c pre W _ _ h _
  exact h.elim
theorem intYes_calls (A : Option Addr) (c x : Nat) (w : World) (h : Rd w A (digs x)) (hx : blen x ≤ 62) :
  Calls Tryz.prog 166 #[.slice A (digs x).length c] w fun e w' => e = .returned (.tuple #[.int .i64 (x : Int), .bool true]) ∧ Bel w w' :=
 callsIn_wide.1 (intYes_in Fence.wide 3 trivial trivial trivial trivial rfl (Nat.le_refl _) A c x w h hx fun W g => callsIn_wide.2 (N6.natLen_calls A c x W g))
end Nd
namespace G6
open Ieee Go Go.RowKit Go.Proofs.YtalbgklfhabnkaaGreatDoor Ow Pl Dp Gp G1 G2 F1
theorem blen53 {y : Nat} (h : y ≤ 2 * bn) : blen y ≤ 62 := blen_le.2 (Nat.lt_of_le_of_lt h (by decide))
theorem and_1 {W : Nat} (h : W ≤ 2 * bn) : bits .and .i64 (W : Int) 1 = ((W % 2 : Nat) : Int) := by
 have := i64_and_nat W 1 (Nat.lt_of_le_of_lt h (by decide)) (by decide)
 rw [show (1 : Nat) = 2 ^ 1 - 1 from rfl, mask_mod] at this
 exact this
theorem rhe_parts {x k W r : Nat} (hk : 1 ≤ k) (hW : W = x / 2 ^ k) (hr : r = x - W * 2 ^ k) : W * 2 ^ k ≤ x ∧
  (cmpI (r : Int) ((2 ^ (k - 1) : Nat) : Int) = -1 → rhe x k = W) ∧ (cmpI (r : Int) ((2 ^ (k - 1) : Nat) : Int) = 0 → rhe x k = W + W % 2) ∧ (cmpI (r : Int) ((2 ^ (k - 1) : Nat) : Int) = 1 → rhe x k = W + 1) := by
 have h1 := Nat.div_add_mod x (2 ^ k)
 rw [← hW, Nat.mul_comm] at h1
 have h2 : x % 2 ^ k = r := by omega
 have h3 : 2 ^ k = 2 * 2 ^ (k - 1) := by rw [← Nat.pow_succ']; congr 1; omega
 generalize W * 2 ^ k = q at *
 unfold rhe cmpI
 rw [← hW, h2, h3]
 clear hW h3 hk
 generalize 2 ^ (k - 1) = z at *
 rcases Nat.lt_trichotomy r z with q1 | q1 | q1
 ·rw [if_pos (show (r : Int) < (z : Int) by omega)]
  refine ⟨by omega, fun _ => ?_, fun h => absurd h (by decide), fun h => absurd h (by decide)⟩
  rw [if_neg (by omega), if_neg (by omega)]; rfl
 ·rw [if_neg (show ¬ (r : Int) < (z : Int) by omega), if_neg (show ¬ (z : Int) < (r : Int) by omega)]
  refine ⟨by omega, fun h => absurd h (by decide), fun _ => ?_, fun h => absurd h (by decide)⟩
  rw [if_neg (by omega), if_pos (by omega)]
 ·rw [if_neg (show ¬ (r : Int) < (z : Int) by omega), if_pos (show (z : Int) < (r : Int) by omega)]
  refine ⟨by omega, fun h => absurd h (by decide), fun h => absurd h (by decide), fun _ => ?_⟩
  rw [if_pos (by omega)]
section
variable {A : Option Addr} {c x : Nat} {k : Int} {w : World}
theorem nearUp_calls {n kn : Nat} (h : Rd w A (digs x)) (hc : (digs x).length ≤ c) (hx : (digs x).length ≤ 1000) (hk : k ≤ 0) (hkn : kn = (-k).toNat) (hk0 : -20000 ≤ k) (hn : n = x * 2 ^ kn) (hb : n ≤ 2 * bn) :
  Calls Tryz.prog 157 #[.slice A (digs x).length c, .int .i64 k] w (Tells w (.float .f64 (floatOfInt .f64 (n : Int)))) := by
 have SL := Ho.mk (N9.shl_calls A c x kn (-k) w h hc (by omega) hkn (by omega))
 rw [← hn] at SL
 have IN := Ho.mk (fun (A : Option Addr) (c : Nat) (W : World) (g : Rd W A (digs n)) => Nd.intYes_calls A c n W g (blen53 hb))
 clear hn hb h hc hx hkn
 generalize digs x = l0 at *
 generalize digs n = l1 at *
 generalize (n : Int) = ni at *
 go_enter Tryz.func157, Tryz.ntmps157
 go_wp2_with fail
 (with_reducible refine SL.out.mono ?_); rintro _ w1 ⟨A1, c1, rfl, hc1, hr1, hb1⟩
 go_wp2_with fail
 (with_reducible refine (IN.out _ _ _ hr1).mono ?_); rintro _ w2 ⟨rfl, hb2⟩
 have HB := Ho.mk (hb1.trans hb2)
 clear hr1 hb1 hb2
 go_wp2
 go_ret
 exact ⟨rfl, HB.out⟩
theorem nearDn_calls {n kn : Nat} (h : Rd w A (digs x)) (hc : (digs x).length ≤ c) (hx : (digs x).length ≤ 1000) (hk : 0 < k) (hkn : kn = k.toNat) (hk1 : k ≤ 20000) (hn : n = rhe x kn) (hb : n ≤ 2 * bn) :
  Calls Tryz.prog 157 #[.slice A (digs x).length c, .int .i64 k] w (Tells w (.float .f64 (floatOfInt .f64 (n : Int)))) := by
 obtain ⟨W, hW⟩ : ∃ W, W = x / 2 ^ kn := ⟨_, rfl⟩
 obtain ⟨r, hr⟩ : ∃ r, r = x - W * 2 ^ kn := ⟨_, rfl⟩
 obtain ⟨p0, p1, p2, p3⟩ := rhe_parts (by omega) hW hr
 obtain ⟨H, hH⟩ : ∃ H, H = 1 * 2 ^ (kn - 1) := ⟨_, rfl⟩
 rw [← Nat.one_mul (2 ^ (kn - 1)), ← hH] at p1 p2 p3
 have hWb : W ≤ 2 * bn := by
  rw [hn] at hb
  rw [hW]; unfold rhe at hb; omega
 have hl2 : (digs (W * 2 ^ kn)).length ≤ (digs x).length := digs_len_le.2 (Nat.lt_of_le_of_lt p0 (digs_len_le.1 (Nat.le_refl _)))
 have hl1 : (digs W).length ≤ (digs x).length := by
  refine digs_len_le.2 (Nat.lt_of_le_of_lt ?_ (digs_len_le.1 (Nat.le_refl _)))
  rw [hW]; exact Nat.div_le_self _ _
 have ha := and_1 hWb
 have SR := Ho.mk (Na.shr_calls A c x kn k w h hc (by omega) hkn (by omega))
 rw [← hW] at SR
 have IN := Ho.mk (fun (A : Option Addr) (c : Nat) (V : World) (g : Rd V A (digs W)) => Nd.intYes_calls A c W V g (blen53 hWb))
 have SL := Ho.mk (fun (A : Option Addr) (c : Nat) (V : World) (g : Rd V A (digs W)) (gc : (digs W).length ≤ c) => N9.shl_calls A c W kn k V g gc (by omega) hkn (by omega))
 have SB := Ho.mk (fun (A1 : Option Addr) (c1 : Nat) (V : World) (b : Bel w V) (g : Rd V A1 (digs (W * 2 ^ kn))) (gc : (digs (W * 2 ^ kn)).length ≤ c1) => N5.sub_calls A A1 c c1 x (W * 2 ^ kn) V (h.bel b) hc g gc (by omega) p0)
 rw [← hr] at SB
 have OF := Ho.mk (fun (V : World) => R2.natOf_calls 1 1 V rfl (by omega))
 have hd1 : (digs 1).length ≤ 1 := digs_len_le.2 (by decide)
 have SH := Ho.mk (fun (A : Option Addr) (c : Nat) (V : World) (g : Rd V A (digs 1)) (gc : (digs 1).length ≤ c) => N9.shl_calls A c 1 (kn - 1) (k - 1) V g gc (by omega) (by omega) (by omega))
 rw [← hH] at SH
 have hWi : (W : Int) ≤ 9007199254740992 := by
  have : 2 * bn = 9007199254740992 := rfl
  omega
 have hW0 : (0 : Int) ≤ (W : Int) := by omega
 have CM := Ho.mk (fun (A B : Option Addr) (c d : Nat) (V : World) (g : Rd V A (digs r)) (g' : Rd V B (digs H)) => N5.cmp_calls A B c d r H V g g')
 have hcr := Ho.mk (F4.cmp_range (r : Int) (H : Int))
 have HP1 := Ho.mk p1
 have HP2 := Ho.mk p2
 have HP3 := Ho.mk p3
 rw [← hn] at HP1 HP2 HP3
 clear hn hb h hx hkn hW hr p0 p1 p2 p3 hH hWb hl1 hl2 hd1
 generalize cmpI (r : Int) (H : Int) = cv at *
 have q1 : IntKind.i64.wrap (k - 1) = k - 1 := IntWalk.i64_in _ (by omega)
 have HN : Ho ((n : Int) = (if cv = -1 then (W : Int) else if cv = 0 then (W : Int) + ((W % 2 : Nat) : Int) else (W : Int) + 1)) := ⟨by
  have := hcr.out
  by_cases z1 : cv = -1
  ·rw [if_pos z1, HP1.out z1]
  ·rw [if_neg z1]
   by_cases z2 : cv = 0
   ·rw [if_pos z2, HP2.out z2]; omega
   ·rw [if_neg z2, HP3.out (by omega)]; omega⟩
 have hm2 : ((W % 2 : Nat) : Int) = 0 ∨ ((W % 2 : Nat) : Int) = 1 := by omega
 clear HP1 HP2 HP3
 generalize ((W % 2 : Nat) : Int) = par at *
 generalize (W : Int) = wi at *
 generalize (n : Int) = ni at *
 generalize digs x = l0 at *
 generalize digs (W * 2 ^ kn) = l2 at *
 generalize digs W = l1 at *
 generalize digs r = l3 at *
 generalize digs H = l5 at *
 generalize digs 1 = l4 at *
 have hcv : cv = -1 ∨ cv = 0 ∨ cv = 1 := by have := hcr.out; omega
 clear hcr
 go_enter Tryz.func157, Tryz.ntmps157
 go_wp2_with fail
 (with_reducible refine SR.out.mono ?_); rintro _ wa ⟨A1, c1, rfl, hc1, hr1, hb1⟩
 go_wp2_with fail
 (with_reducible refine (IN.out _ _ _ hr1).mono ?_); rintro _ wb ⟨rfl, hb2⟩
 go_wp2_with fail
 (with_reducible refine (SL.out _ _ _ (hr1.bel hb2) hc1).mono ?_); rintro _ wc ⟨A2, c2, rfl, hc2, hr2, hb3⟩
 go_wp2_with fail
 (with_reducible refine (SB.out _ _ _ ((hb1.trans hb2).trans hb3) hr2 hc2).mono ?_); rintro _ wd ⟨A3, c3, rfl, hc3, hr3, hb4⟩
 go_wp2_with fail
 (with_reducible refine (OF.out _).mono ?_); rintro _ we ⟨A4, c4, rfl, hc4, hr4, hb5⟩
 go_wp2_with fail
 (with_reducible refine (SH.out _ _ _ hr4 hc4).mono ?_); rintro _ wf ⟨A5, c5, rfl, hc5, hr5, hb6⟩
 go_wp2_with fail
 (with_reducible refine (CM.out _ _ _ _ _ (hr3.bel (hb5.trans hb6)) hr5).mono ?_); rintro _ wg ⟨rfl, hd⟩
 have HB := Ho.mk ((((hb1.trans hb2).trans hb3).trans hb4).trans (hb5.trans hb6))
 have HG : Ho (Bel w wg) := ⟨by obtain ⟨j, rfl⟩ := hd; exact HB.out.drewN j⟩
 clear hd HB hb1 hb2 hb3 hb4 hb5 hb6 hr1 hr2 hr3 hr4 hr5 SR IN SL SB OF SH CM
 rcases hcv with rfl | rfl | rfl
 ·go_wp2
  go_ret
  exact ⟨by rw [HN.out]; rfl, HG.out⟩
 ·rcases hm2 with rfl | rfl
  ·go_wp2
   go_ret
   exact ⟨by rw [HN.out]; simp, HG.out⟩
  ·go_wp2
   go_ret
   exact ⟨by rw [HN.out]; rfl, HG.out⟩
 ·go_wp2
  go_ret
  exact ⟨by rw [HN.out]; rfl, HG.out⟩
theorem nearest_calls {n : Nat} (h : Rd w A (digs x)) (hc : (digs x).length ≤ c) (hx : (digs x).length ≤ 1000) (hk0 : -20000 ≤ k) (hk1 : k ≤ 20000) (hn : n = if k ≤ 0 then x * 2 ^ (-k).toNat else rhe x k.toNat) (hb : n ≤ 2 * bn) :
  Calls Tryz.prog 157 #[.slice A (digs x).length c, .int .i64 k] w (Tells w (.float .f64 (floatOfInt .f64 (n : Int)))) := by
 by_cases hk : k ≤ 0
 ·rw [if_pos hk] at hn
  exact nearUp_calls h hc hx hk rfl hk0 hn hb
 ·rw [if_neg hk] at hn
  exact nearDn_calls h hc hx (by omega) rfl hk1 hn hb
end
end G6
namespace G7
open Ieee Go Go.RowKit Go.Proofs.YtalbgklfhabnkaaGreatDoor Ow Pl Dp Gp Gq G1 G2 F1
theorem top_blen {v : Int} (h : v ≠ 0) : de v + Nat.log2 (dm v) = de v + (blen (dm v) : Int) - 1 := by
 rw [blen_pos (fun c => h (dm_zero.1 c))]; omega
section
variable {A : Option Addr} {c L U : Nat} {v : Int} {w : World}
theorem mid_calls (h : Dv w A c v L U) (hL : L ≤ 10000) (hU : U ≤ 10000) (h0 : v ≠ 0) (t0 : -1080 ≤ de v + (blen (dm v) : Int) - 1) (t1 : de v + (blen (dm v) : Int) - 1 ≤ 1023) :
  Calls Tryz.prog 148 #[.agg #[.bool (dneg v), .slice A (digs (dm v)).length c, .int .i64 (de v)]] w (Tells w (.float .f64 (nw v))) := by
 have ht := top_blen h0
 obtain ⟨q, hq⟩ : ∃ q, q = max (de v + (blen (dm v) : Int) - 1 - 52) (-1074) := ⟨_, rfl⟩
 obtain ⟨n, hn⟩ : ∃ n, n = if q ≤ de v then dm v * 2 ^ (de v - q).toNat else rhe (dm v) (q - de v).toNat := ⟨_, rfl⟩
 obtain ⟨m1, m2, m3, m4⟩ := near_mid h0 (by rw [ht]; exact t0) (by rw [ht]; exact t1) q (by rw [ht]; exact hq) n hn
 have hle := h.len (by omega)
 have e0 := h.e0 (by omega)
 have e1 := h.e1 (by omega)
 have q0 : -1074 ≤ q := by omega
 have q1 : q ≤ 971 := by omega
 have e2 := h.wd.e_ge
 have e3 := h.wd.e_le
 have LN := Ho.mk (fun (W : World) (g : Bel w W) => N6.natLen_calls A c (dm v) W (h.rd.bel g))
 have NR := Ho.mk (fun (W : World) (g : Bel w W) => G6.nearest_calls (k := q - de v) (n := n) (h.rd.bel g) h.cap hle (by omega) (by omega) (by
  rw [hn]
  by_cases z : q ≤ de v
  ·rw [if_pos z, if_pos (by omega), show -(q - de v) = de v - q by omega]
  ·rw [if_neg z, if_neg (by omega)]) m3)
 have LD := Ho.mk (fun (W : World) => ldexpN_calls m3 q0 q1 m4 (nr_le v) W)
 have hl0 : ¬ (digs (dm v)).length = 0 := fun z => h0 (dm_zero.1 (digs_nil.1 (List.length_eq_zero_iff.1 z)))
 have hm := mul_sign (dneg v) (nr_le v) false
 rw [Bool.xor_false, ← m1, word_eq false, if_neg (by decide)] at hm
 have bq : (((digs (dm v)).length : Int) == 0) = false := beq_eq_false_iff_ne.2 (by omega)
 have b1 : (blen (dm v) : Int) ≤ 100000 := by
  have := blen_le.2 (h.wd.m_lt (by unfold K; omega))
  omega
 have b0 : 0 ≤ (blen (dm v) : Int) := by omega
 clear hn m1 m2 m3 m4 h hle h0 ht hl0
 generalize floatOfInt .f64 (n : Int) = fw at *
 generalize nr v = rw at *
 generalize nw v = res at *
 generalize (blen (dm v) : Int) = bl at *
 generalize digs (dm v) = l at *
 generalize de v = ev at *
 generalize dneg v = nb at *
 have hq2 : (q = -1074 ∧ ev + bl - 1 - 52 < -1074) ∨ (q = ev + bl - 1 - 52 ∧ -1074 ≤ ev + bl - 1 - 52) := by omega
 clear hq
 cases nb
 ·rw [word_eq, if_neg (by decide)] at hm
  have hm2 : ∀ t w, (binOp .mul t (.float .f64 4607182418800017408) (.float .f64 rw)).run Tryz.prog w = .ok (.float .f64 res) w := fun t w => run_float_arith w .mul t .f64 _ _ res hm
  clear hm
  rcases hq2 with ⟨rfl, z⟩ | ⟨rfl, z⟩
  all_goals
   go_enter Tryz.func148, Tryz.ntmps148
   go_wp2_with fail
   go_quiet ((go_at_call 154; (with_reducible refine (LN.out _ (((Bel.refl w).alloc _).drewN _)).mono ?_); rintro e w' ⟨rfl, rfl⟩; exact ⟨rfl, _, rfl⟩))
   go_wp2_with first
    | (go_at_call 157; (with_reducible refine (NR.out _ (((Bel.refl w).alloc _).drewN _)).mono ?_); rintro _ w2 ⟨rfl, hb2⟩; have HB := Ho.mk ((((Bel.refl w).alloc _).drewN _).trans hb2); clear hb2)
    | (go_at_call 156; (with_reducible refine (LD.out _).mono ?_); rintro _ _ ⟨rfl, rfl⟩)
    | (simp only [hm2])
   go_ret
   exact ⟨rfl, HB.out⟩
 ·rw [word_eq, if_pos rfl] at hm
  have hm2 : ∀ t w, (binOp .mul t (.float .f64 13830554455654793216) (.float .f64 rw)).run Tryz.prog w = .ok (.float .f64 res) w := fun t w => run_float_arith w .mul t .f64 _ _ res hm
  clear hm
  rcases hq2 with ⟨rfl, z⟩ | ⟨rfl, z⟩
  all_goals
   go_enter Tryz.func148, Tryz.ntmps148
   go_wp2_with fail
   go_quiet ((go_at_call 154; (with_reducible refine (LN.out _ (((Bel.refl w).alloc _).drewN _)).mono ?_); rintro e w' ⟨rfl, rfl⟩; exact ⟨rfl, _, rfl⟩))
   go_wp2_with first
    | (go_at_call 157; (with_reducible refine (NR.out _ (((Bel.refl w).alloc _).drewN _)).mono ?_); rintro _ w2 ⟨rfl, hb2⟩; have HB := Ho.mk ((((Bel.refl w).alloc _).drewN _).trans hb2); clear hb2)
    | (go_at_call 156; (with_reducible refine (LD.out _).mono ?_); rintro _ _ ⟨rfl, rfl⟩)
    | (simp only [hm2])
   go_ret
   exact ⟨rfl, HB.out⟩
theorem zero_calls (h : Dv w A c 0 L U) :
  Calls Tryz.prog 148 #[.agg #[.bool (dneg 0), .slice A (digs (dm 0)).length c, .int .i64 (de 0)]] w (Tells w (.float .f64 (nw 0))) := by
 have LN : Ho (∀ W, Bel w W → Calls Tryz.prog 154 #[.slice A 0 c] W fun e w' => e = .returned (.int .i64 0) ∧ W = w') := ⟨fun W g => by
  have := N6.natLen_calls A c (dm 0) W (h.rd.bel g)
  rw [show dm 0 = 0 from odd_zero, digs_zero, blen_zero] at this; exact this⟩
 rw [show nw 0 = 0 from rfl, show dm 0 = 0 from odd_zero, digs_zero, de_zero, dneg_zero, List.length_nil]
 clear h
 go_enter Tryz.func148, Tryz.ntmps148
 go_wp2_with fail
 go_quiet ((go_at_call 154; (with_reducible refine (LN.out _ (((Bel.refl w).alloc _).drewN _)).mono ?_); rintro e w' ⟨rfl, rfl⟩; exact ⟨rfl, _, rfl⟩))
 go_wp2
 go_ret
 exact ⟨rfl, ((Bel.refl w).alloc _).drewN _⟩
theorem low_calls (h : Dv w A c v L U) (hL : L ≤ 10000) (hU : U ≤ 10000) (h0 : v ≠ 0) (t0 : de v + (blen (dm v) : Int) - 1 < -1080) :
  Calls Tryz.prog 148 #[.agg #[.bool (dneg v), .slice A (digs (dm v)).length c, .int .i64 (de v)]] w (Tells w (.float .f64 (nw v))) := by
 have ht := top_blen h0
 have e0 := h.e0 (by omega)
 have e1 := h.e1 (by omega)
 have LN := Ho.mk (fun (W : World) (g : Bel w W) => N6.natLen_calls A c (dm v) W (h.rd.bel g))
 have b1 : (blen (dm v) : Int) ≤ 100000 := by
  have := blen_le.2 (h.wd.m_lt (by unfold K; omega))
  omega
 have b0 : 0 ≤ (blen (dm v) : Int) := by omega
 have hl0 : ¬ (digs (dm v)).length = 0 := fun z => h0 (dm_zero.1 (digs_nil.1 (List.length_eq_zero_iff.1 z)))
 have bq : (((digs (dm v)).length : Int) == 0) = false := beq_eq_false_iff_ne.2 (by omega)
 have hn : nw v = 0 := by unfold nw; rw [if_pos (.inr (by rw [ht]; exact t0))]
 rw [hn]
 clear hn h h0 ht hl0
 generalize (blen (dm v) : Int) = bl at *
 generalize digs (dm v) = l at *
 generalize de v = ev at *
 generalize dneg v = nb at *
 cases nb
 all_goals
  go_enter Tryz.func148, Tryz.ntmps148
  go_wp2_with fail
  go_quiet ((go_at_call 154; (with_reducible refine (LN.out _ (((Bel.refl w).alloc _).drewN _)).mono ?_); rintro e w' ⟨rfl, rfl⟩; exact ⟨rfl, _, rfl⟩))
  go_wp2
  go_ret
  exact ⟨rfl, ((Bel.refl w).alloc _).drewN _⟩
theorem high_calls (h : Dv w A c v L U) (hL : L ≤ 10000) (hU : U ≤ 10000) (h0 : v ≠ 0) (t1 : 1023 < de v + (blen (dm v) : Int) - 1) :
  Calls Tryz.prog 148 #[.agg #[.bool (dneg v), .slice A (digs (dm v)).length c, .int .i64 (de v)]] w (Tells w (.float .f64 (nw v))) := by
 have ht := top_blen h0
 have e0 := h.e0 (by omega)
 have e1 := h.e1 (by omega)
 have LN := Ho.mk (fun (W : World) (g : Bel w W) => N6.natLen_calls A c (dm v) W (h.rd.bel g))
 have b1 : (blen (dm v) : Int) ≤ 100000 := by
  have := blen_le.2 (h.wd.m_lt (by unfold K; omega))
  omega
 have b0 : 0 ≤ (blen (dm v) : Int) := by omega
 have hl0 : ¬ (digs (dm v)).length = 0 := fun z => h0 (dm_zero.1 (digs_nil.1 (List.length_eq_zero_iff.1 z)))
 have bq : (((digs (dm v)).length : Int) == 0) = false := beq_eq_false_iff_ne.2 (by omega)
 have hn : nw v = double.word (dneg v) infR := near_top (by rw [ht]; exact t1) h0
 rw [hn]
 clear hn h h0 ht hl0
 generalize (blen (dm v) : Int) = bl at *
 generalize digs (dm v) = l at *
 generalize de v = ev at *
 generalize dneg v = nb at *
 have I1 := Ho.mk (inf_calls 1)
 have I2 := Ho.mk (inf_calls (-1))
 have c1 : ∀ w, (convert 22 3 (.float .f64 4607182418800017408)).run Tryz.prog w = .ok (.int .i64 1) w := fun w => run_convert_float_int w 22 3 .f64 .i64 _ 1 (by kernel_rfl) (by kernel_rfl) (by kernel_rfl)
 have c2 : ∀ w, (convert 22 3 (.float .f64 13830554455654793216)).run Tryz.prog w = .ok (.int .i64 (-1)) w := fun w => run_convert_float_int w 22 3 .f64 .i64 _ (-1) (by kernel_rfl) (by kernel_rfl) (by kernel_rfl)
 cases nb
 all_goals
  go_enter Tryz.func148, Tryz.ntmps148
  go_wp2_with fail
  go_quiet ((go_at_call 154; (with_reducible refine (LN.out _ (((Bel.refl w).alloc _).drewN _)).mono ?_); rintro e w' ⟨rfl, rfl⟩; exact ⟨rfl, _, rfl⟩))
  go_wp2_with first
   | (go_at_call 155; (first | (with_reducible refine (I1.out _).mono ?_) | (with_reducible refine (I2.out _).mono ?_)); rintro _ _ ⟨rfl, rfl⟩)
   | (simp only [c1])
   | (simp only [c2])
  go_ret
  exact ⟨rfl, ((Bel.refl w).alloc _).drewN _⟩
theorem near_calls (h : Dv w A c v L U) (hL : L ≤ 10000) (hU : U ≤ 10000) :
  Calls Tryz.prog 148 #[.agg #[.bool (dneg v), .slice A (digs (dm v)).length c, .int .i64 (de v)]] w (Tells w (.float .f64 (nw v))) := by
 by_cases h0 : v = 0
 ·subst h0; exact zero_calls h
 ·by_cases t0 : de v + (blen (dm v) : Int) - 1 < -1080
  ·exact low_calls h hL hU h0 t0
  ·by_cases t1 : 1023 < de v + (blen (dm v) : Int) - 1
   ·exact high_calls h hL hU h0 t1
   ·exact mid_calls h hL hU h0 (by omega) (by omega)
end
end G7
namespace G9
open Ieee Go Go.RowKit Go.Proofs.YtalbgklfhabnkaaGreatDoor Ow Pl Dp Gp Gq G1 G2 F1 G6 G7
theorem xor_top {r : Nat} (h : r < sgnW) : r ^^^ 2 ^ 63 = sgnW + r := by
 have e : sgnW = 2 ^ 63 := rfl
 apply Nat.eq_of_testBit_eq
 intro i
 rw [Nat.testBit_xor, Nat.testBit_two_pow, e]
 rcases Nat.lt_trichotomy i 63 with q | q | q
 ·rw [Nat.testBit_two_pow_add_gt q, decide_eq_false (by omega), Bool.xor_false]
 ·subst q
  rw [Nat.testBit_two_pow_add_eq, decide_eq_true rfl, Bool.xor_true]
 ·have h1 : r < 2 ^ i := Nat.lt_of_lt_of_le h (by rw [e]; exact Nat.pow_le_pow_right (by decide) (by omega))
  have h2 : 2 ^ 63 + r < 2 ^ i := by
   have : (2 : Nat) ^ 64 ≤ 2 ^ i := Nat.pow_le_pow_right (by decide) (by omega)
   have e2 : (2 : Nat) ^ 64 = 2 ^ 63 + 2 ^ 63 := rfl
   rw [e] at h; omega
  rw [Nat.testBit_lt_two_pow h1, Nat.testBit_lt_two_pow h2, decide_eq_false (by omega)]; rfl
theorem neg_word (n : Bool) {r : Nat} (h : r < sgnW) : Op.negFloat .f64 (double.word n r) = double.word (!n) r := by
 show double.word n r ^^^ 2 ^ 63 = _
 rw [word_eq, word_eq]
 cases n
 ·rw [if_neg (by decide), if_pos (by decide), xor_top h]
 ·rw [if_pos rfl, if_neg (by decide), ← xor_top h, Nat.xor_assoc, Nat.xor_self, Nat.xor_zero]
end G9
namespace W0
open Ieee Go Go.RowKit Go.Proofs.YtalbgklfhabnkaaGreatDoor Ow Gp Gq Gr G1 G2 G3 G4 G9
def qn : Nat := 9221120237041090561
def cn (b : Nat) : Nat := if infR < frung b then qn else if frung b = 0 then 0 else b
theorem cn_lt {b : Nat} (h : b < 2 * sgnW) : cn b < 2 * sgnW := by
 unfold cn; split
 ·decide
 ·split
  ·decide
  ·exact h
theorem cn_qn : cn qn = qn := by decide
theorem cn_zero : cn 0 = 0 := by decide
theorem cn_nan {b : Nat} (h : infR < frung b) : cn b = qn := by unfold cn; rw [if_pos h]
theorem cn_idem (b : Nat) : cn (cn b) = cn b := by
 by_cases h : infR < frung b
 ·rw [cn_nan h, cn_qn]
 ·by_cases h0 : frung b = 0
  ·have : cn b = 0 := by unfold cn; rw [if_neg h, if_pos h0]
   rw [this, cn_zero]
  ·have : cn b = b := by unfold cn; rw [if_neg h, if_neg h0]
   rw [this, this]
def dq : Datum → Datum → Prop
 | .nan _ _, .nan _ _ => True
 | .infinity s, .infinity t => s = t
 | .number s m e, .number t n f => e = f ∧ m = n ∧ (m = 0 ∨ s = t)
 | _, _ => False
theorem dq_refl (d : Datum) : dq d d := by cases d <;> simp [dq]
theorem read_cn {b : Nat} (h : b < 2 * sgnW) : dq (double.read b) (double.read (cn b)) := by
 by_cases h1 : infR < frung b
 ·rw [cn_nan h1, read_nan h h1, show double.read qn = .nan false (qn - infR) from by decide]; trivial
 ·by_cases h0 : frung b = 0
  ·have e : cn b = 0 := by unfold cn; rw [if_neg h1, if_pos h0]
   rw [e, read_fin h (by rw [h0]; decide), read_fin (b := 0) (by decide) (by decide), h0]
   refine ⟨rfl, rfl, .inl rfl⟩
  ·have e : cn b = b := by unfold cn; rw [if_neg h1, if_neg h0]
   rw [e]; exact dq_refl _
theorem word_parts (s : Bool) {r : Nat} (h : r ≤ infR) : cn (double.word s r) = if r = 0 then 0 else double.word s r := by
 have hl : r < sgnW := Nat.lt_of_le_of_lt h infR_lt
 obtain ⟨h1, h2⟩ := word_neg s hl
 unfold cn
 rw [h2, if_neg (by omega)]
theorem write_dq {x y : Datum} (h : dq x y) (hx : ∀ s m, x ≠ .nan s m) : cn (double.write x) = cn (double.write y) := by
 cases x with
 | nan s m => exact (hx s m rfl).elim
 | infinity s => cases y <;> simp [dq] at h; rw [h]
 | number s m e =>
  cases y with
  | number t n f =>
   obtain ⟨rfl, rfl, h⟩ := h
   rcases h with rfl | rfl
   ·show cn (double.nearest s 0 e) = cn (double.nearest t 0 e)
    unfold Format.nearest
    rw [if_pos rfl, if_pos rfl, word_parts s (Nat.zero_le _), word_parts t (Nat.zero_le _), if_pos rfl, if_pos rfl]
   ·rfl
  | infinity s => exact h.elim
  | nan s m => exact h.elim
def told : Option Datum → Nat
 | some d => cn (double.write d)
 | none => qn
def odq : Option Datum → Option Datum → Prop
 | some x, some y => dq x y ∧ ∀ s m, x ≠ .nan s m
 | none, none => True
 | _, _ => False
theorem told_odq {x y : Option Datum} (h : odq x y) : told x = told y := by
 cases x with
 | none => cases y with
  | none => rfl
  | some d => exact h.elim
 | some d => cases y with
  | none => exact h.elim
  | some e => exact write_dq h.1 h.2
theorem signed_zero (s : Bool) (k : Nat) : signed s 0 k = 0 := by unfold signed; simp
theorem sum_dq {x x' y y' : Datum} (h : dq x x') (k : dq y y') : odq (x.sum y) (x'.sum y') := by
 cases x <;> cases x' <;> simp [dq] at h <;> cases y <;> cases y' <;> simp [dq] at k <;> try (simp [Datum.sum, odq, dq]; done)
 ·rename_i s m e t n f s2 m2 e2 t2 n2 f2
  obtain ⟨rfl, rfl, h⟩ := h
  obtain ⟨rfl, rfl, k⟩ := k
  have e1 : signed s m (e - min e e2).toNat = signed t m (e - min e e2).toNat := by
   rcases h with rfl | rfl
   ·rw [signed_zero, signed_zero]
   ·rfl
  have e3 : signed s2 m2 (e2 - min e e2).toNat = signed t2 m2 (e2 - min e e2).toNat := by
   rcases k with rfl | rfl
   ·rw [signed_zero, signed_zero]
   ·rfl
  simp only [Datum.sum, odq, dq, e1, e3]
  refine ⟨⟨trivial, trivial, ?_⟩, by simp⟩
  by_cases h0 : signed t m (e - min e e2).toNat + signed t2 m2 (e2 - min e e2).toNat = 0
  ·left; rw [h0]; rfl
  ·right; rw [if_neg h0, if_neg h0]
 ·rename_i s m e t n f s2 t2
  subst k; simp [Datum.sum, odq, dq]
 ·rename_i s t s2 m e t2 n f
  subst h; simp [Datum.sum, odq, dq]
 ·rename_i s t s2 t2
  subst h; subst k
  simp only [Datum.sum]
  split <;> simp [odq, dq]
theorem prod_dq {x x' y y' : Datum} (h : dq x x') (k : dq y y') : odq (x.product y) (x'.product y') := by
 cases x <;> cases x' <;> simp [dq] at h <;> cases y <;> cases y' <;> simp [dq] at k <;> try (simp [Datum.product, odq, dq]; done)
 ·rename_i s m e t n f s2 m2 e2 t2 n2 f2
  obtain ⟨rfl, rfl, h⟩ := h
  obtain ⟨rfl, rfl, k⟩ := k
  simp only [Datum.product, odq, dq]
  refine ⟨⟨trivial, trivial, ?_⟩, by simp⟩
  rcases h with rfl | rfl
  ·left; simp
  ·rcases k with rfl | rfl
   ·left; simp
   ·right; rfl
 ·rename_i s m e t n f s2 t2
  subst k
  obtain ⟨rfl, rfl, h⟩ := h
  simp only [Datum.product]
  by_cases h0 : m = 0
  ·rw [if_pos h0, if_pos h0]; trivial
  ·rw [if_neg h0, if_neg h0]
   rcases h with h | h
   ·exact (h0 h).elim
   ·rw [h]; simp [odq, dq]
 ·rename_i s t s2 m e t2 n f
  subst h
  obtain ⟨rfl, rfl, k⟩ := k
  simp only [Datum.product]
  by_cases h0 : m = 0
  ·rw [if_pos h0, if_pos h0]; trivial
  ·rw [if_neg h0, if_neg h0]
   rcases k with k | k
   ·exact (h0 k).elim
   ·rw [k]; simp [odq, dq]
 ·rename_i s t s2 t2
  subst h; subst k
  simp [Datum.product, odq, dq]
theorem opp_dq {x x' : Datum} (h : dq x x') : dq x.opposite x'.opposite := by
 cases x <;> cases x' <;> simp [dq] at h <;> simp [Datum.opposite, dq]
 ·obtain ⟨rfl, rfl, h⟩ := h
  exact ⟨rfl, rfl, h⟩
 ·exact h
def fadd (x y : Nat) : Nat := told ((double.read x).sum (double.read y))
def fsub (x y : Nat) : Nat := told ((double.read x).sum (double.read y).opposite)
def fmul (x y : Nat) : Nat := told ((double.read x).product (double.read y))
theorem fadd_cn {a b : Nat} (ha : a < 2 * sgnW) (hb : b < 2 * sgnW) : fadd (cn a) (cn b) = fadd a b := (told_odq (sum_dq (read_cn ha) (read_cn hb))).symm
theorem fsub_cn {a b : Nat} (ha : a < 2 * sgnW) (hb : b < 2 * sgnW) : fsub (cn a) (cn b) = fsub a b := (told_odq (sum_dq (read_cn ha) (opp_dq (read_cn hb)))).symm
theorem fmul_cn {a b : Nat} (ha : a < 2 * sgnW) (hb : b < 2 * sgnW) : fmul (cn a) (cn b) = fmul a b := (told_odq (prod_dq (read_cn ha) (read_cn hb))).symm
theorem write_lt (d : Datum) : double.write d < 2 * sgnW := double.write_lt d
theorem nan_cn (t : Nat) (q : Question) (h : q.cut t = (t % 2) * 2 ^ 63 + 0x7ff0000000000000 + 1 + (t / 2) % (2 ^ 52 - 1)) : q.cut t < 2 * sgnW ∧ cn (q.cut t) = qn := by
 have h1 : t / 2 % (2 ^ 52 - 1) < 2 ^ 52 - 1 := Nat.mod_lt _ (by decide)
 have h2 : t % 2 < 2 := Nat.mod_lt _ (by decide)
 have e52 : (2 : Nat) ^ 52 = 4503599627370496 := by decide
 have e63 : (2 : Nat) ^ 63 = 9223372036854775808 := by decide
 have e : sgnW = 9223372036854775808 := rfl
 rw [h]
 rw [e52] at *
 rw [e63] at *
 generalize t / 2 % (4503599627370496 - 1) = z at *
 generalize t % 2 = y at *
 refine ⟨by omega, cn_nan ?_⟩
 unfold frung infR
 rw [e]
 rcases (show y = 0 ∨ y = 1 by omega) with rfl | rfl <;> omega
theorem run_fop {P : Program} (op : BinOp) (f : Nat → Nat → Option Datum) (hf : ∀ x y, floatBits op .f64 x y = (f x y).map double.write) (hop : op = .add ∨ op = .sub ∨ op = .mul ∨ op = .quo) (t : TypeId) (a b : Nat) (w : World) :
  ∃ r w', (binOp op t (.float .f64 a) (.float .f64 b)).run P w = .ok (.float .f64 r) w' ∧ (w' = w ∨ w' = w.drew) ∧ r < 2 * sgnW ∧ cn r = told (f a b) := by
 have hf' := hf a b
 cases hd : f a b with
 | some d =>
  rw [hd] at hf'
  exact ⟨double.write d, w, run_float_arith w op t .f64 a b _ hf', .inl rfl, write_lt d, rfl⟩
 | none =>
  rw [hd] at hf'
  obtain ⟨h1, h2⟩ := nan_cn (w.tape w.drawn (.nanBits .f64 a b)) (.nanBits .f64 a b) rfl
  refine ⟨_, w.drew, ?_, .inr rfl, h1, h2⟩
  rcases hop with rfl | rfl | rfl | rfl
  all_goals
   simp only [floatBits, Option.map_none] at hf'
   simp [binOp, Op.floatArith, hf', run_choose_drew, Question.forced]
theorem drew_bel (w : World) {w' : World} (h : w' = w ∨ w' = w.drew) : Bel w w' := by
 rcases h with rfl | rfl
 ·exact Bel.refl _
 ·exact (Bel.refl _).drew
theorem run_fadd {P : Program} (t : TypeId) {a b : Nat} (ha : a < 2 * sgnW) (hb : b < 2 * sgnW) (w : World) :
  ∃ r w', (binOp .add t (.float .f64 a) (.float .f64 b)).run P w = .ok (.float .f64 r) w' ∧ (w' = w ∨ w' = w.drew) ∧ r < 2 * sgnW ∧ cn r = fadd (cn a) (cn b) := by
 obtain ⟨r, w', h1, h2, h3, h4⟩ := run_fop (P := P) .add (fun x y => (double.read x).sum (double.read y)) (fun _ _ => rfl) (.inl rfl) t a b w
 exact ⟨r, w', h1, h2, h3, by rw [fadd_cn ha hb]; exact h4⟩
theorem run_fsub {P : Program} (t : TypeId) {a b : Nat} (ha : a < 2 * sgnW) (hb : b < 2 * sgnW) (w : World) :
  ∃ r w', (binOp .sub t (.float .f64 a) (.float .f64 b)).run P w = .ok (.float .f64 r) w' ∧ (w' = w ∨ w' = w.drew) ∧ r < 2 * sgnW ∧ cn r = fsub (cn a) (cn b) := by
 obtain ⟨r, w', h1, h2, h3, h4⟩ := run_fop (P := P) .sub (fun x y => (double.read x).sum (double.read y).opposite) (fun _ _ => rfl) (.inr (.inl rfl)) t a b w
 exact ⟨r, w', h1, h2, h3, by rw [fsub_cn ha hb]; exact h4⟩
theorem run_fmul {P : Program} (t : TypeId) {a b : Nat} (ha : a < 2 * sgnW) (hb : b < 2 * sgnW) (w : World) :
  ∃ r w', (binOp .mul t (.float .f64 a) (.float .f64 b)).run P w = .ok (.float .f64 r) w' ∧ (w' = w ∨ w' = w.drew) ∧ r < 2 * sgnW ∧ cn r = fmul (cn a) (cn b) := by
 obtain ⟨r, w', h1, h2, h3, h4⟩ := run_fop (P := P) .mul (fun x y => (double.read x).product (double.read y)) (fun _ _ => rfl) (.inr (.inr (.inl rfl))) t a b w
 exact ⟨r, w', h1, h2, h3, by rw [fmul_cn ha hb]; exact h4⟩
def fng (x : Nat) : Nat := cn (Op.negFloat .f64 x)
theorem xor_top' (b : Nat) (h : b < 2 * sgnW) : Op.negFloat .f64 b = double.word (!fneg b) (frung b) := by
 have := neg_word (fneg b) (word_split h).2
 rw [← (word_split h).1] at this; exact this
theorem fng_lt' {b : Nat} (h : b < 2 * sgnW) : Op.negFloat .f64 b < 2 * sgnW := by
 rw [xor_top' b h]; exact word_lt2 _ (word_split h).2
theorem neg_cn {b : Nat} (h : b < 2 * sgnW) : cn (Op.negFloat .f64 b) = fng (cn b) := by
 unfold fng
 have hs := (word_split h).2
 by_cases h1 : infR < frung b
 ·rw [cn_nan h1, xor_top' b h, cn_nan (by rw [(word_neg _ hs).2]; exact h1)]; decide
 ·by_cases h0 : frung b = 0
  ·have e : cn b = 0 := by unfold cn; rw [if_neg h1, if_pos h0]
   rw [e, xor_top' b h, h0, word_parts _ (Nat.zero_le _), if_pos rfl]; decide
  ·have e : cn b = b := by unfold cn; rw [if_neg h1, if_neg h0]
   rw [e]
theorem cn_fng (x : Nat) : cn (fng x) = fng x := cn_idem _
theorem fng_lt {x : Nat} (h : x < 2 * sgnW) : fng x < 2 * sgnW := cn_lt (fng_lt' h)
theorem V_inj {a b : Nat} (ha : a < 2 * sgnW) (hb : b < 2 * sgnW) (h : V a = V b) (h0 : frung a ≠ 0) : a = b := by
 have e1 := (word_split ha).1
 have e2 := (word_split hb).1
 have hm : mag (frung a) = mag (frung b) := by
  have := congrArg Int.natAbs h
  rwa [V_sv, V_sv, sv_abs, sv_abs] at this
 have hr := mag_inj hm
 have hpos : 0 < mag (frung a) := by
  have := mag_lt.2 (Nat.pos_of_ne_zero h0)
  omega
 have hn : fneg a = fneg b := by
  rw [V_sv, V_sv, ← hm] at h
  unfold sv at h
  cases hA : fneg a <;> cases hB : fneg b <;> simp [hA, hB] at h <;> first | rfl | omega
 rw [e1, e2, hr, hn]
theorem alike_cn {a b : Nat} (ha : a < 2 * sgnW) (hb : b < 2 * sgnW) : alike a b = decide (cn a = cn b) := by
 unfold alike
 by_cases n1 : infR < frung a
 ·have o1 := order_nan ha hb (.inl n1)
  have o2 := order_nan ha ha (.inl n1)
  rw [show FloatKind.f64.format.order a b = none from o1, show FloatKind.f64.format.order a a = none from o2]
  by_cases n2 : infR < frung b
  ·rw [show FloatKind.f64.format.order b b = none from order_nan hb hb (.inl n2), cn_nan n1, cn_nan n2]; rfl
  ·rw [show FloatKind.f64.format.order b b = some (compare (V b) (V b)) from order_le hb hb (by omega) (by omega), cn_nan n1]
   have : cn b ≠ qn := by
    unfold cn; rw [if_neg n2]
    split
    ·decide
    ·rintro rfl; exact n2 (by decide)
   rw [decide_eq_false (fun e => this e.symm), cmp_int, if_neg (by omega), if_pos rfl]; rfl
 ·by_cases n2 : infR < frung b
  ·rw [show FloatKind.f64.format.order a b = none from order_nan ha hb (.inr n2), show FloatKind.f64.format.order a a = some (compare (V a) (V a)) from order_le ha ha (by omega) (by omega), cn_nan n2]
   have : cn a ≠ qn := by
    unfold cn; rw [if_neg n1]
    split
    ·decide
    ·rintro rfl; exact n1 (by decide)
   rw [decide_eq_false this, cmp_int, if_neg (by omega), if_pos rfl]; rfl
  ·rw [show FloatKind.f64.format.order a b = some (compare (V a) (V b)) from order_le ha hb (by omega) (by omega), show FloatKind.f64.format.order a a = some (compare (V a) (V a)) from order_le ha ha (by omega) (by omega), cmp_int, cmp_int (V a) (V a), if_neg (show ¬ V a < V a by omega), if_pos rfl]
   have key : V a = V b ↔ cn a = cn b := by
    constructor
    ·intro h
     by_cases h0 : frung a = 0
     ·have hb0 : frung b = 0 := by
       have : V a = 0 := V_zero_iff.2 h0
       exact V_zero_iff.1 (h ▸ this)
      unfold cn; rw [if_neg n1, if_neg n2, if_pos h0, if_pos hb0]
     ·rw [V_inj ha hb h h0]
    ·intro h
     unfold cn at h
     rw [if_neg n1, if_neg n2] at h
     by_cases h0 : frung a = 0 <;> by_cases h1 : frung b = 0
     ·rw [V_zero_iff.2 h0, V_zero_iff.2 h1]
     ·rw [if_pos h0, if_neg h1] at h; exact (h1 (by rw [← h]; decide)).elim
     ·rw [if_neg h0, if_pos h1] at h; exact (h0 (by rw [h]; decide)).elim
     ·rw [if_neg h0, if_neg h1] at h; rw [h]
   by_cases e : V a = V b
   ·rw [if_neg (by omega), if_pos e, decide_eq_true (key.1 e)]; rfl
   ·rw [if_neg e, decide_eq_false (fun q => e (key.2 q))]
    split <;> rfl
def nthN (l : List Nat) (i : Nat) : Nat := l.getD i 0
theorem nthN_lt {l : List Nat} {i : Nat} (h : i < l.length) : nthN l i = l[i] := by simp [nthN, h]
def Fc (v : Value) (x : Nat) : Prop := ∃ b, v = .float .f64 b ∧ b < 2 * sgnW ∧ cn b = x
structure Fr (w : World) (A : Option Addr) (l : List Nat) : Prop where
 max : l.length ≤ 35184372088831
 cell : ∀ j, j < l.length → ∃ ad v, A = some ad ∧ w.cell? (ad.add j) = some v ∧ Fc v (nthN l j)
theorem Fr.nil (w : World) (A : Option Addr) : Fr w A [] := ⟨by simp, fun j hj => by simp at hj⟩
theorem Fr.bel {w w' : World} {A : Option Addr} {l : List Nat} (h : Fr w A l) (hb : Bel w w') : Fr w' A l :=
 ⟨h.max, fun j hj => by obtain ⟨ad, v, e, hc, k⟩ := h.cell j hj; exact ⟨ad, v, e, hb.cell hc, k⟩⟩
theorem Fr.at_ {w : World} {A : Option Addr} {l : List Nat} (h : Fr w A l) {i : Nat} (hi : i < l.length) :
  ∃ ad b, A = some ad ∧ w.cell? (ad.add i) = some (.float .f64 b) ∧ b < 2 * sgnW ∧ cn b = nthN l i := by
 obtain ⟨ad, v, e, hc, b, rfl, k1, k2⟩ := h.cell i hi
 exact ⟨ad, b, e, hc, k1, k2⟩
theorem Fr.take {w : World} {A : Option Addr} {l : List Nat} (h : Fr w A l) (n : Nat) : Fr w A (l.take n) :=
 ⟨by have := h.max; simp; omega, fun j hj => by
  have hj' : j < l.length := by simp at hj; omega
  have hjn : j < n := by simp at hj; omega
  obtain ⟨ad, v, e, hc, k⟩ := h.cell j hj'
  refine ⟨ad, v, e, hc, ?_⟩
  rwa [show nthN (l.take n) j = nthN l j from by simp [nthN, List.getD_eq_getElem?_getD, hjn]]⟩
theorem Fr.drop {w : World} {ad : Addr} {l : List Nat} (h : Fr w (some ad) l) (n : Nat) : Fr w (some (ad.add n)) (l.drop n) :=
 ⟨by have := h.max; rw [List.length_drop]; omega, fun j hj => by
  rw [List.length_drop] at hj
  obtain ⟨ad', v, e, hc, k⟩ := h.cell (n + j) (by omega)
  cases e
  exact ⟨_, v, rfl, by rw [add_add, hc], by rwa [show nthN (l.drop n) j = nthN l (n + j) from by simp [nthN]]⟩⟩
structure Fk (w : World) (b : Nat) (X : List Nat) : Prop where
 out : ∃ cs : List Value, Blk w b 22 cs ∧ cs.length = X.length ∧ ∀ j v, cs[j]? = some v → Fc v (nthN X j)
theorem Fk.bel {w w' : World} {b : Nat} {X : List Nat} (h : Fk w b X) (g : Bel w w') : Fk w' b X := by
 obtain ⟨cs, h1, h2⟩ := h.out; exact ⟨cs, h1.bel g, h2⟩
theorem Fk.lt {w : World} {b : Nat} {X : List Nat} (h : Fk w b X) : b < w.heap.size := by obtain ⟨cs, h1, _⟩ := h.out; exact h1.lt
theorem Fk.gr {w w' : World} {b b' : Nat} {X : List Nat} (h : Fk w b X) (g : Gr b' w w') (ne : b ≠ b') : Fk w' b X := by
 obtain ⟨cs, h1, h2⟩ := h.out; exact ⟨cs, g.blk h1 ne, h2⟩
theorem Fk.far {w : World} {b : Nat} {X : List Nat} (h : Fk w b X) {p : Addr} (hp : b ≠ p.block) (v : Value) : Fk (w.setCell p v) b X := by
 obtain ⟨cs, h1, h2⟩ := h.out; exact ⟨cs, h1.far hp v, h2⟩
theorem Fk.at_ {w : World} {b : Nat} {X : List Nat} (h : Fk w b X) {i : Nat} (hi : i < X.length) : ∃ r, w.cell? ⟨b, i, none⟩ = some (.float .f64 r) ∧ r < 2 * sgnW ∧ cn r = nthN X i := by
 obtain ⟨cs, h1, h2, h3⟩ := h.out
 have hc : cs[i]? = some cs[i] := List.getElem?_eq_getElem (by omega)
 obtain ⟨r, e, k1, k2⟩ := h3 i _ hc
 exact ⟨r, by rw [h1.cell hc, e], k1, k2⟩
theorem Fk.free {w : World} {b : Nat} {X : List Nat} (h : Fk w b X) (i : Nat) : w.frozen? ⟨b, i, none⟩ = false := by
 obtain ⟨cs, h1, _⟩ := h.out; exact h1.free i
theorem nthN_set (X : List Nat) (i : Nat) (x : Nat) (j : Nat) : nthN (X.set i x) j = if i = j ∧ i < X.length then x else nthN X j := by
 simp only [nthN, List.getD_eq_getElem?_getD, List.getElem?_set]
 by_cases h : i = j
 ·subst h
  by_cases h2 : i < X.length
  ·simp [h2]
  ·simp [h2]
 ·simp [h]
theorem Fk.set {w : World} {b : Nat} {X : List Nat} (h : Fk w b X) (i : Nat) {r x : Nat} (hr : r < 2 * sgnW) (hx : cn r = x) : Fk (w.setCell ⟨b, i, none⟩ (.float .f64 r)) b (X.set i x) := by
 obtain ⟨cs, h1, h2, h3⟩ := h.out
 refine ⟨cs.set i (.float .f64 r), h1.set i _, by rw [List.length_set, List.length_set, h2], fun j v hj => ?_⟩
 rw [nthN_set]
 rw [List.getElem?_set] at hj
 by_cases e : i = j
 ·subst e
  by_cases hi : i < X.length
  ·rw [if_pos rfl, if_pos (by omega)] at hj
   cases hj
   rw [if_pos ⟨rfl, hi⟩]
   exact ⟨r, rfl, hr, hx⟩
  ·rw [if_pos rfl, if_neg (by omega)] at hj; cases hj
 ·rw [if_neg e] at hj
  rw [if_neg (fun q => e q.1)]
  exact h3 j v hj
theorem add_lit (b i j : Nat) : (⟨b, i, none⟩ : Addr).add j = ⟨b, i + j, none⟩ := by
 unfold Addr.add
 split
 ·subst_vars; rfl
 ·rfl
theorem Fk.fr {w : World} {b : Nat} {X : List Nat} (h : Fk w b X) (o n : Nat) (hn : o + n ≤ X.length) (hm : n ≤ 35184372088831) : Fr w (some ⟨b, o, none⟩) ((X.drop o).take n) :=
 ⟨by simp; omega, fun j hj => by
  have hj' : j < n := by simp at hj; omega
  obtain ⟨r, hc, k1, k2⟩ := h.at_ (i := o + j) (by omega)
  refine ⟨_, _, rfl, by rw [add_lit]; exact hc, r, rfl, k1, ?_⟩
  rw [k2]; simp [nthN, List.getD_eq_getElem?_getD, hj']⟩
theorem Fk.of {w : World} {b : Nat} {cs : List Value} {X : List Nat} (h : Blk w b 22 cs) (hl : cs.length = X.length) (hc : ∀ j v, cs[j]? = some v → Fc v (nthN X j)) : Fk w b X := ⟨cs, h, hl, hc⟩
theorem Fk.zero {w : World} {b n : Nat} (h : Blk w b 22 (List.replicate n (.float .f64 0))) : Fk w b (List.replicate n 0) :=
 Fk.of h (by simp) fun j v hv => by
  rw [List.getElem?_replicate] at hv
  split at hv
  ·cases hv
   exact ⟨0, rfl, by decide, by simp [nthN, List.getD_eq_getElem?_getD, *, cn_zero]⟩
  ·cases hv
end W0
namespace U0
open Ieee Go Go.RowKit Ow Pl Dp Gp Gq T0 T1 W0
def formN (k : Int) (q : Nat) : Nat × Nat := if (k % 2 ^ q).toNat = 0 then (0, 0) else ((k % 2 ^ q).toNat / 2 ^ tzE (k % 2 ^ q).toNat, q - tzE (k % 2 ^ q).toNat)
def addT (a b : Nat × Nat) : Nat × Nat :=
 let f := formN a.1 a.2
 let g := formN b.1 b.2
 let q := max f.2 g.2
 formN ((f.1 * 2 ^ (q - f.2) + g.1 * 2 ^ (q - g.2) : Nat) : Int) q
def flipT (a : Nat × Nat) : Nat × Nat := formN (-(a.1 : Int)) a.2
def upT (f : Nat × Nat) : Nat × Nat := if f.2 < 3 ∧ f ≠ (0, 0) then (f.1 * 2 ^ (3 - f.2), 3) else f
def splitT (k : Int) (q : Nat) : Nat × (Nat × Nat) :=
 let f := upT (formN k q)
 if f = (0, 0) then (0, (0, 0)) else
 let e := f.1 / 2 ^ (f.2 - 3)
 if e % 2 = 0 then (e, addT f (flipT (e, 3))) else (e, flipT (addT f (flipT (e + 1, 3))))
def placeT (e : Nat) : Bool × Bool × Bool :=
 ((e == 1) || ((e == 2) || ((e == 5) || (e == 6))), decide (2 ≤ e) && decide (e ≤ 5), decide (4 ≤ e))
def lookT (r : Nat × Nat) : Nat × Nat := match (T1.rowAt r.2).find? (fun x => x.1 == r.1) with
 | some x => x.2
 | none => (0, 0)
def turnT (e : Nat) (p : Nat × Nat) : Nat × Nat :=
 let p := if (placeT e).1 then (p.2, p.1) else p
 (if (placeT e).2.1 then fng p.1 else p.1, if (placeT e).2.2 then fng p.2 else p.2)
def tabW (q k : Nat) : Nat × Nat := turnT (splitT k q).1 (lookT (splitT k q).2)
def restsOk (q : Nat) : Bool := (List.range (2 ^ q)).all fun k => (T1.rowAt (splitT k q).2.2).any (fun x => x.1 == (splitT k q).2.1) && (decide ((splitT k q).1 ≤ 7) && (decide ((splitT k q).2.2 ≤ 9) && (decide ((splitT k q).2.1 < 64) && decide ((splitT k q).2.2 = 0 ∨ 3 ≤ (splitT k q).2.2))))
theorem rests_ok : ∀ q, q ≤ 9 → restsOk q = true := by
 intro q hq
 have : ∀ q : Fin 10, restsOk q.val = true := by decide +kernel
 exact this ⟨q, by omega⟩
theorem form_mod (k : Int) (q : Nat) : formN (k % 2 ^ q) q = formN k q := by
 unfold formN; rw [Int.emod_emod]
theorem split_mod (k : Int) (q : Nat) : splitT (k % 2 ^ q) q = splitT k q := by
 unfold splitT; rw [form_mod]
theorem look_of {r : Nat × Nat} (h : (T1.rowAt r.2).any (fun x => x.1 == r.1) = true) : ((r.1, (lookT r).1, (lookT r).2) : Nat × Nat × Nat) ∈ T1.rowAt r.2 := by
 unfold lookT
 cases hf : (T1.rowAt r.2).find? (fun x => x.1 == r.1) with
 | none =>
  obtain ⟨x, hx, hp⟩ := List.any_eq_true.1 h
  exact absurd hp (by simpa using List.find?_eq_none.1 hf x hx)
 | some x =>
  have h1 := List.mem_of_find?_eq_some hf
  have h2 := List.find?_some hf
  simp only [beq_iff_eq] at h2
  rw [← h2]; exact h1
theorem split_entry (k : Int) {q : Nat} (hq : q ≤ 9) : Entry (splitT k q).2.2 (splitT k q).2.1 (lookT (splitT k q).2).1 (lookT (splitT k q).2).2 ∧ (splitT k q).1 ≤ 7 ∧ (splitT k q).2.2 ≤ 9 ∧ (splitT k q).2.1 < 64 ∧ ((splitT k q).2.2 = 0 ∨ 3 ≤ (splitT k q).2.2) := by
 have h := rests_ok q hq
 unfold restsOk at h
 have hp : (0 : Int) < 2 ^ q := Int.pow_pos (by decide)
 have h0 := Int.emod_nonneg k (Int.ne_of_gt hp)
 have h1 := Int.emod_lt_of_pos k hp
 have hm : (k % 2 ^ q).toNat < 2 ^ q := by
  have : ((2 : Int) ^ q) = ((2 ^ q : Nat) : Int) := by simp
  omega
 have := List.all_eq_true.1 h _ (List.mem_range.2 hm)
 rw [Int.toNat_of_nonneg h0, split_mod] at this
 simp only [Bool.and_eq_true, decide_eq_true_eq] at this
 obtain ⟨a, b, c, d, e⟩ := this
 exact ⟨rowAt_ok _ (look_of a), b, c, d, e⟩
theorem split_mem (k : Int) {q : Nat} (hq : q ≤ 9) : ((splitT k q).2.1, (lookT (splitT k q).2).1, (lookT (splitT k q).2).2) ∈ T1.rowAt (splitT k q).2.2 := by
 have h := rests_ok q hq
 unfold restsOk at h
 have hp : (0 : Int) < 2 ^ q := Int.pow_pos (by decide)
 have h0 := Int.emod_nonneg k (Int.ne_of_gt hp)
 have h1 := Int.emod_lt_of_pos k hp
 have hm : (k % 2 ^ q).toNat < 2 ^ q := by
  have : ((2 : Int) ^ q) = ((2 ^ q : Nat) : Int) := by simp
  omega
 have := List.all_eq_true.1 h _ (List.mem_range.2 hm)
 rw [Int.toNat_of_nonneg h0, split_mod] at this
 simp only [Bool.and_eq_true, decide_eq_true_eq] at this
 exact look_of this.1
def selfOk (Q : Nat) : Bool := (T1.rowAt Q).all fun x => formN x.1 Q == (x.1, Q) && ((splitT x.1 Q).2 == (x.1, Q) && ((splitT x.1 Q).1 == 0 || ((splitT x.1 Q).1 == 1 && (x.1 == 1 && Q == 3))) && (decide (x.1 < 64) && decide (Q = 0 ∨ 3 ≤ Q)))
theorem self_ok : ∀ Q, Q ≤ 9 → selfOk Q = true := by
 intro Q hq
 have : ∀ Q : Fin 10, selfOk Q.val = true := by decide +kernel
 exact this ⟨Q, by omega⟩
theorem row_self {Q k cw sw : Nat} (hQ : Q ≤ 9) (h : (k, cw, sw) ∈ T1.rowAt Q) : formN k Q = (k, Q) ∧ (splitT k Q).2 = (k, Q) ∧ ((splitT k Q).1 = 0 ∨ ((splitT k Q).1 = 1 ∧ k = 1 ∧ Q = 3)) ∧ k < 64 ∧ (Q = 0 ∨ 3 ≤ Q) := by
 have := List.all_eq_true.1 (self_ok Q hQ) _ h
 simp only [Bool.and_eq_true, Bool.or_eq_true, beq_iff_eq, decide_eq_true_eq] at this
 obtain ⟨a, ⟨b, c⟩, d, e⟩ := this
 exact ⟨a, b, c, d, e⟩
end U0
namespace U1
open Ieee Go Go.RowKit Go.Proofs.YtalbgklfhabnkaaGreatDoor Ow Pl Dp Dt F1 T0 I0 U0
attribute [local go_sem ↓] Go.wp_at_zero Go.wp_at_succ
def MakesT (w : World) (t : Nat × Nat) (e : Ending) (w' : World) : Prop := e = .returned (.agg #[.int .i64 t.1, .int .i64 t.2]) ∧ Bel w w'
theorem res2 {fn : Func} {p : Tmp} {tmps : Array Value} {w : World} {b : Nat} {v0 v1 : Value} (hf : fn.results = #[.cell p 95]) (hp : tmps.getD p undef = .pointer (some ⟨b, 0, none⟩)) (h : Blk w b 95 [v0, v1]) :
  (results fn tmps).run Tryz.prog w = .ok (.agg #[v0, v1]) w := by
 obtain ⟨y0, y1⟩ := h.c2
 have hp2 := hp
 rw [Array.getD_eq_getD_getElem?] at hp2
 simp [results, hf, hp2, go_sem, y0, y1]
theorem gives_endT {fn : Func} {p : Tmp} {tmps : Array Value} {w w2 : World} {b : Nat} {t : Nat × Nat} {k q : Int} {u0 u1 : Value} (hf : fn.results = #[.cell p 95]) (hp : tmps.getD p undef = .pointer (some ⟨b, 0, none⟩)) (hB : Bel w w2) (hb : w.heap.size ≤ b)
  (K : Blk w2 b 95 [u0, u1]) (hk : k = t.1) (hq : q = t.2) :
  bodyPost Tryz.prog fn (MakesT w t) .ret { tmps := tmps, defers := [] } ((w2.setCell ⟨b, 0, none⟩ (.int .i64 k)).setCell ⟨b, 1, none⟩ (.int .i64 q)) := by
 subst hk; subst hq
 exact bodyPost_ret (res2 hf hp ((K.set 0 _).set 1 _)) rfl ⟨rfl, ⟨(hB.out.setCell (p := ⟨b, 0, none⟩) hb _).setCell (p := ⟨b, 1, none⟩) hb _⟩⟩
theorem form_k {m b : Int} (h : 0 < m) (hb : (tz m.toNat : Int) = b) : m / 2 ^ b.toNat = ((m.toNat / 2 ^ tz m.toNat : Nat) : Int) := by
 subst hb
 rw [Int.toNat_natCast, Int.natCast_ediv, Int.toNat_of_nonneg (by omega)]
 simp
theorem form_q {t : Nat} {q b : Int} (hb : (t : Int) = b) (hz : b ≤ q) (h1 : q ≤ 20) : IntKind.i64.wrap (q - b) = (((q - (t : Int)).toNat : Nat) : Int) := by
 subst hb
 rw [IntKind.wrap_i64]; omega
theorem form_zero {k m : Int} {qi p : Int} {t : Nat × Nat} (w : World) (h0 : 0 ≤ qi) (h1 : qi ≤ 20) (hp : IntKind.i64.wrap (IntKind.i64.wrap (2 ^ qi.toNat) - 1) = p) (hm : bits .and .i64 k p = 0) (ht : t = (0, 0)) :
  Calls Tryz.prog 134 #[.agg #[.int .i64 k, .int .i64 qi]] w (MakesT w t) := by
 have HT := Ho.mk ht
 clear ht
 go_enter Tryz.func134, Tryz.ntmps134
 go_wp2_with fail
 have KB := Ho.mk ((Blk.new w [.int .i64 k, .int .i64 qi] 95).old (.cells #[.int .i64 0, .int .i64 0] 95))
 have KR := Ho.mk (Blk.new (w.alloc (.cells #[.int .i64 k, .int .i64 qi] 95)) [.int .i64 0, .int .i64 0] 95)
 rw [World.size_alloc] at KR
 have g0 := Ho.mk (((Bel.refl w).alloc (.cells #[.int .i64 k, .int .i64 qi] 95)).alloc (.cells #[.int .i64 0, .int .i64 0] 95))
 generalize (w.alloc (.cells #[.int .i64 k, .int .i64 qi] 95)).alloc (.cells #[.int .i64 0, .int .i64 0] 95) = W at *
 obtain ⟨y0, y1⟩ := KB.out.c2
 have f0 := KB.out.drew.free 0
 refine I7.wp_region_late 8 (S := fun w' => Bel W w') (by kernel_rfl) (Bel.refl _).drew (fun hHeld => ?_)
 (try dsimp only at hHeld)
 refine I7.kt (i := 0) hHeld ?_
 refine I7.kl (i := 1) (v := ?_) hHeld (fun w hSw => ?_) ?_
 rotate_left
 ·(have z0 := hSw.cell y0; go_simp; try (with_reducible rfl))
 refine I7.kt (i := 2) hHeld ?_
 refine I7.kl (i := 3) (v := ?_) hHeld (fun w hSw => ?_) ?_
 rotate_left
 ·(have z0 := hSw.cell y1; go_simp; try (with_reducible rfl))
 refine I7.kt (i := 4) hHeld ?_
 refine I7.kt (i := 5) hHeld ?_
 refine I7.kt (i := 6) hHeld ?_
 refine I7.kt (i := 7) hHeld ?_
 try simp only [Act.put, Ow.zS, Ow.zC, Ow.zD]
 refine I7.ke (i := 8) (fun K hK => ?_)
 go_simp
 refine hK.out _ _ ?_
 clear hK K
 try simp only [Act.put, Ow.zS, Ow.zC, Ow.zD]
 refine wpAny_done (by kernel_rfl) ?_ _
 have KB2 := Ho.mk ((KB.out.set 0 (.int .i64 0)).drew)
 have KR2 := Ho.mk ((KR.out.far (p := ⟨w.heap.size, 0, none⟩) (by simp) (.int .i64 0)).drew)
 have g2 := Ho.mk (show Bel w (W.setCell ⟨w.heap.size, 0, none⟩ (.int .i64 0)).drew from ⟨(g0.out.out.setCell (p := ⟨w.heap.size, 0, none⟩) (Nat.le_refl _) _).drew⟩)
 clear KB KR y0 y1 f0 g0 hHeld
 generalize (W.setCell ⟨w.heap.size, 0, none⟩ (.int .i64 0)).drew = W2 at *
 obtain ⟨y0, y1⟩ := KB2.out.c2
 obtain ⟨x0, x1⟩ := KR2.out.c2
 have z0 := KR2.out.free 0
 have z1 := KR2.out.free 1
 go_wp2
 exact gives_endT (fn := Tryz.f134) rfl rfl g2.out (by omega) KR2.out (by rw [HT.out]; rfl) (by rw [HT.out]; rfl)
theorem form_some {k m : Int} {qi p : Int} {t : Nat × Nat} (w : World) (h0 : 0 ≤ qi) (h1 : qi ≤ 20) (hp : IntKind.i64.wrap (IntKind.i64.wrap (2 ^ qi.toNat) - 1) = p) (hm : bits .and .i64 k p = m) (h2 : 0 < m) (h3 : m < 16777216) (T : Tab w) (ht : t = (m.toNat / 2 ^ tz m.toNat, (qi - tz m.toNat).toNat)) (hz : (tz m.toNat : Int) ≤ qi) :
  Calls Tryz.prog 134 #[.agg #[.int .i64 k, .int .i64 qi]] w (MakesT w t) := by
 have HT := Ho.mk ht
 clear ht
 go_enter Tryz.func134, Tryz.ntmps134
 go_wp2_with fail
 have KB := Ho.mk ((Blk.new w [.int .i64 k, .int .i64 qi] 95).old (.cells #[.int .i64 0, .int .i64 0] 95))
 have KR := Ho.mk (Blk.new (w.alloc (.cells #[.int .i64 k, .int .i64 qi] 95)) [.int .i64 0, .int .i64 0] 95)
 rw [World.size_alloc] at KR
 have g0 := Ho.mk (((Bel.refl w).alloc (.cells #[.int .i64 k, .int .i64 qi] 95)).alloc (.cells #[.int .i64 0, .int .i64 0] 95))
 generalize (w.alloc (.cells #[.int .i64 k, .int .i64 qi] 95)).alloc (.cells #[.int .i64 0, .int .i64 0] 95) = W at *
 obtain ⟨y0, y1⟩ := KB.out.c2
 have f0 := KB.out.drew.free 0
 refine I7.wp_region_late 8 (S := fun w' => Bel W w') (by kernel_rfl) (Bel.refl _).drew (fun hHeld => ?_)
 (try dsimp only at hHeld)
 refine I7.kt (i := 0) hHeld ?_
 refine I7.kl (i := 1) (v := ?_) hHeld (fun w hSw => ?_) ?_
 rotate_left
 ·(have z0 := hSw.cell y0; go_simp; try (with_reducible rfl))
 refine I7.kt (i := 2) hHeld ?_
 refine I7.kl (i := 3) (v := ?_) hHeld (fun w hSw => ?_) ?_
 rotate_left
 ·(have z0 := hSw.cell y1; go_simp; try (with_reducible rfl))
 refine I7.kt (i := 4) hHeld ?_
 refine I7.kt (i := 5) hHeld ?_
 refine I7.kt (i := 6) hHeld ?_
 refine I7.kt (i := 7) hHeld ?_
 try simp only [Act.put, Ow.zS, Ow.zC, Ow.zD]
 refine I7.ke (i := 8) (fun K hK => ?_)
 go_simp
 refine hK.out _ _ ?_
 clear hK K
 try simp only [Act.put, Ow.zS, Ow.zC, Ow.zD]
 refine wpAny_done (by kernel_rfl) ?_ _
 have KB2 := Ho.mk ((KB.out.set 0 (.int .i64 m)).drew)
 have KR2 := Ho.mk ((KR.out.far (p := ⟨w.heap.size, 0, none⟩) (by simp) (.int .i64 m)).drew)
 have g2 := Ho.mk (show Bel w (W.setCell ⟨w.heap.size, 0, none⟩ (.int .i64 m)).drew from ⟨(g0.out.out.setCell (p := ⟨w.heap.size, 0, none⟩) (Nat.le_refl _) _).drew⟩)
 clear KB KR y0 y1 f0 g0 hHeld
 generalize (W.setCell ⟨w.heap.size, 0, none⟩ (.int .i64 m)).drew = W2 at *
 obtain ⟨y0, y1⟩ := KB2.out.c2
 obtain ⟨x0, x1⟩ := KR2.out.c2
 have z0 := KR2.out.free 0
 have z1 := KR2.out.free 1
 have TZ := Ho.mk (fun w T => E1.tz_callsI m w h2 h3 T)
 have TT := Ho.mk (T.bel g2.out)
 have HZ := Ho.mk hz
 clear T hz
 go_wp2_with fail
 (with_reducible refine (TZ.out _ TT.out).mono ?_); rintro e w3 ⟨rfl, rfl⟩
 have hz0 : (0 : Int) ≤ tz m.toNat := by omega
 have hz1 := HZ.out
 generalize hb : (tz m.toNat : Int) = by_ at *
 go_wp2_with fail
 refine I7.wp_region_late 9 (S := fun w' => Bel W2 w') (by kernel_rfl) (Bel.refl _).drew (fun hHeld => ?_)
 (try dsimp only at hHeld)
 refine I7.kt (i := 0) hHeld ?_
 refine I7.kl (i := 1) (v := ?_) hHeld (fun w hSw => ?_) ?_
 rotate_left
 ·(have z0 := hSw.cell y0; go_simp; try (with_reducible rfl))
 refine I7.kt (i := 2) hHeld ?_
 refine I7.kt (i := 3) hHeld ?_
 refine I7.kt (i := 4) hHeld ?_
 refine I7.kl (i := 5) (v := ?_) hHeld (fun w hSw => ?_) ?_
 rotate_left
 ·(have z0 := hSw.cell y1; go_simp; try (with_reducible rfl))
 refine I7.kt (i := 6) hHeld ?_
 refine I7.kt (i := 7) hHeld ?_
 refine I7.kt (i := 8) hHeld ?_
 try simp only [Act.put, Ow.zS, Ow.zC, Ow.zD]
 refine I7.ke (i := 9) (fun K hK => ?_)
 go_simp
 refine hK.out _ _ ?_
 clear hK K
 try simp only [Act.put, Ow.zS, Ow.zC, Ow.zD]
 refine wpAny_done (by kernel_rfl) ?_ _
 go_wp2
 --@@
 exact gives_endT (fn := Tryz.f134) (w2 := W2.drew) rfl rfl g2.out.drew (by omega) KR2.out.drew (by rw [HT.out]; exact form_k h2 hb) (by rw [HT.out, ← hb]; exact form_q rfl (by omega) h1)
theorem tz_lt_of {m q : Nat} (h0 : m ≠ 0) (h : m < 2 ^ q) : tz m ≤ q := by
 have hd : 2 ^ tz m * odd m = m := by rw [Nat.mul_comm]; exact odd_eq m
 rcases Nat.lt_or_ge q (tz m) with g | g
 ·exfalso
  have h1 : 2 ^ q ≤ 2 ^ tz m := Nat.pow_le_pow_right (by decide) (by omega)
  have h2 : 0 < odd m := by rcases Nat.eq_zero_or_pos (odd m) with e | e; rw [e, Nat.mul_zero] at hd; omega; exact e
  have := Nat.le_mul_of_pos_right (2 ^ tz m) h2
  omega
 ·exact g
theorem dForm {k qi : Int} {q : Nat} (w : World) (T : Tab w) (hqi : (q : Int) = qi) (hq : q ≤ 20) : Calls Tryz.prog 134 #[.agg #[.int .i64 k, .int .i64 qi]] w (MakesT w (formN k q)) := by
 have hp2 : (2 : Nat) ^ q ≤ 2 ^ 20 := Nat.pow_le_pow_right (by decide) hq
 have hp1 : (0 : Int) < 2 ^ q := Int.pow_pos (by decide)
 have hp0 : ((2 : Int) ^ q) = ((2 ^ q : Nat) : Int) := by simp
 have e20 : (2 : Nat) ^ 20 = 1048576 := by decide
 have hw : IntKind.i64.wrap (IntKind.i64.wrap (2 ^ qi.toNat) - 1) = 2 ^ q - 1 := by
  rw [← hqi, Int.toNat_natCast, IntKind.wrap_i64, IntKind.wrap_i64, hp0]
  rw [hp0] at hp1
  generalize (2 : Nat) ^ q = P at *
  omega
 have hmask := i64_mask k q (by omega)
 have g0 := Int.emod_nonneg k (Int.ne_of_gt hp1)
 have g1 := Int.emod_lt_of_pos k hp1
 by_cases h0 : k % 2 ^ q = 0
 ·exact form_zero (m := 0) w (by omega) (by omega) hw (hmask.trans h0) (by unfold formN; rw [if_pos (by rw [h0]; rfl)])
 ·have hn : (k % 2 ^ q).toNat ≠ 0 := by omega
  have hz := tz_lt_of hn (show (k % 2 ^ q).toNat < 2 ^ q by rw [hp0] at *; omega)
  exact form_some w (by omega) (by omega) hw hmask (by omega) (by rw [hp0] at *; omega) T (by unfold formN; rw [if_neg hn, tzE_eq]; congr 1; omega) (by omega)
theorem dFlip {k qi : Int} {q : Nat} (w : World) (T : Tab w) (hqi : (q : Int) = qi) (hq : q ≤ 20) (hk0 : -1000000000000 ≤ k) (hk1 : k ≤ 1000000000000) :
  Calls Tryz.prog 136 #[.agg #[.int .i64 k, .int .i64 qi]] w (MakesT w (formN (-k) q)) := by
 have FO := Ho.mk (fun w T => dForm (k := -k) w T hqi hq)
 have TT := Ho.mk T
 clear T
 go_enter Tryz.func136, Tryz.ntmps136
 go_wp2_with fail
 have KB := Ho.mk ((Blk.new w [.int .i64 k, .int .i64 qi] 95).old (.cells #[.int .i64 0, .int .i64 0] 95))
 have KR := Ho.mk (Blk.new (w.alloc (.cells #[.int .i64 k, .int .i64 qi] 95)) [.int .i64 0, .int .i64 0] 95)
 rw [World.size_alloc] at KR
 have g0 := Ho.mk (((Bel.refl w).alloc (.cells #[.int .i64 k, .int .i64 qi] 95)).alloc (.cells #[.int .i64 0, .int .i64 0] 95))
 have hS : ((w.alloc (.cells #[.int .i64 k, .int .i64 qi] 95)).alloc (.cells #[.int .i64 0, .int .i64 0] 95)).heap.size = w.heap.size + 1 + 1 := by simp only [World.size_alloc]
 generalize ((w.alloc (.cells #[.int .i64 k, .int .i64 qi] 95)).alloc (.cells #[.int .i64 0, .int .i64 0] 95)) = W at *
 obtain ⟨y0, y1⟩ := KB.out.c2
 go_wp2_with fail
 (with_reducible refine (FO.out _ (TT.out.bel g0.out)).mono ?_); rintro e w1 ⟨rfl, b1⟩
 have KR2 := Ho.mk (KR.out.bel b1)
 clear y0 y1
 obtain ⟨x0, x1⟩ := KR2.out.c2
 have z0 := KR2.out.free 0
 have z1 := KR2.out.free 1
 go_wp2
 exact gives_endT (fn := Tryz.f136) rfl rfl (g0.out.trans b1) (by omega) KR2.out rfl rfl
theorem dFrom {k : Int} (w : World) (T : Tab w) (hk0 : -1000000000000 ≤ k) (hk1 : k ≤ 1000000000000) :
  Calls Tryz.prog 135 #[.int .i64 k] w (MakesT w (formN (-k) 3)) := by
 have FL := Ho.mk (fun w T => dFlip (q := 3) (qi := 3) (k := k) w T rfl (by decide) hk0 hk1)
 have TT := Ho.mk T
 clear T
 go_enter Tryz.func135, Tryz.ntmps135
 go_wp2_with fail
 have KR := Ho.mk (Blk.new w [.int .i64 0, .int .i64 0] 95)
 have g0 := Ho.mk ((Bel.refl w).alloc (.cells #[.int .i64 0, .int .i64 0] 95))
 have hS : (w.alloc (.cells #[.int .i64 0, .int .i64 0] 95)).heap.size = w.heap.size + 1 := by simp only [World.size_alloc]
 generalize (w.alloc (.cells #[.int .i64 0, .int .i64 0] 95)) = W at *
 go_wp2_with fail
 (with_reducible refine (FL.out _ (TT.out.bel g0.out)).mono ?_); rintro e w1 ⟨rfl, b1⟩
 have KR2 := Ho.mk (KR.out.bel b1)
 obtain ⟨x0, x1⟩ := KR2.out.c2
 have z0 := KR2.out.free 0
 have z1 := KR2.out.free 1
 go_wp2
 exact gives_endT (fn := Tryz.f135) rfl rfl (g0.out.trans b1) (by omega) KR2.out rfl rfl
theorem dAdd {k1 q1 k2 q2 : Int} {n1 n2 : Nat} (w : World) (T : Tab w) (h1 : (n1 : Int) = q1) (h2 : (n2 : Int) = q2) (hn1 : n1 ≤ 20) (hn2 : n2 ≤ 20) {f g t : Nat × Nat} (hf : formN k1 n1 = f) (hg : formN k2 n2 = g) {u v qq s : Int} {qm : Nat}
  (hf1 : f.1 < 1048576) (hf2 : f.2 ≤ 20) (hg1 : g.1 < 1048576) (hg2 : g.2 ≤ 20)
  (hq : (if (f.2 : Int) < (g.2 : Int) then (g.2 : Int) else (f.2 : Int)) = qq) (hqm : (qm : Int) = qq) (hqm2 : qm ≤ 20) (hu : IntKind.i64.wrap ((f.1 : Int) * 2 ^ min (IntKind.i64.wrap (qq - (f.2 : Int))).toNat 64) = u) (hv : IntKind.i64.wrap ((g.1 : Int) * 2 ^ min (IntKind.i64.wrap (qq - (g.2 : Int))).toNat 64) = v) (hs : IntKind.i64.wrap (u + v) = s) (ht : formN s qm = t) :
  Calls Tryz.prog 137 #[.agg #[.int .i64 k1, .int .i64 q1], .agg #[.int .i64 k2, .int .i64 q2]] w (MakesT w t) := by
 have F1 := Ho.mk (fun w T => dForm (k := k1) w T h1 hn1)
 have F2 := Ho.mk (fun w T => dForm (k := k2) w T h2 hn2)
 have F3 := Ho.mk (fun w T => dForm (k := s) w T hqm hqm2)
 rw [hf] at F1
 rw [hg] at F2
 rw [ht] at F3
 have TT := Ho.mk T
 have p0 : (0 : Int) ≤ f.1 := Int.natCast_nonneg _
 have p1 : (0 : Int) ≤ f.2 := Int.natCast_nonneg _
 have p2 : (0 : Int) ≤ g.1 := Int.natCast_nonneg _
 have p3 : (0 : Int) ≤ g.2 := Int.natCast_nonneg _
 have p4 : (f.2 : Int) ≤ qq := by rw [← hq]; split <;> omega
 have p5 : (g.2 : Int) ≤ qq := by rw [← hq]; split <;> omega
 have p6 : qq ≤ 20 := by omega
 have w1 : 0 ≤ IntKind.i64.wrap (qq - (f.2 : Int)) := by rw [IntKind.wrap_i64]; omega
 have w2 : 0 ≤ IntKind.i64.wrap (qq - (g.2 : Int)) := by rw [IntKind.wrap_i64]; omega
 clear T hf hg ht hqm hf1 hf2 hg1 hg2
 unfold MakesT at F1 F2
 generalize (f.1 : Int) = fk at *
 generalize (f.2 : Int) = fq at *
 generalize (g.1 : Int) = gk at *
 generalize (g.2 : Int) = gq at *
 go_enter Tryz.func137, Tryz.ntmps137
 go_wp2_with fail
 have KA := Ho.mk (((Blk.new w [.int .i64 k1, .int .i64 q1] 95).old (.cells #[.int .i64 k2, .int .i64 q2] 95)).old (.cells #[.int .i64 0, .int .i64 0] 95))
 have KB := Ho.mk ((Blk.new (w.alloc (.cells #[.int .i64 k1, .int .i64 q1] 95)) [.int .i64 k2, .int .i64 q2] 95).old (.cells #[.int .i64 0, .int .i64 0] 95))
 rw [World.size_alloc] at KB
 have KR := Ho.mk (Blk.new ((w.alloc (.cells #[.int .i64 k1, .int .i64 q1] 95)).alloc (.cells #[.int .i64 k2, .int .i64 q2] 95)) [.int .i64 0, .int .i64 0] 95)
 rw [World.size_alloc, World.size_alloc] at KR
 have g0 := Ho.mk ((((Bel.refl w).alloc (.cells #[.int .i64 k1, .int .i64 q1] 95)).alloc (.cells #[.int .i64 k2, .int .i64 q2] 95)).alloc (.cells #[.int .i64 0, .int .i64 0] 95))
 have hS : (((w.alloc (.cells #[.int .i64 k1, .int .i64 q1] 95)).alloc (.cells #[.int .i64 k2, .int .i64 q2] 95)).alloc (.cells #[.int .i64 0, .int .i64 0] 95)).heap.size = w.heap.size + 1 + 1 + 1 := by simp only [World.size_alloc]
 generalize (((w.alloc (.cells #[.int .i64 k1, .int .i64 q1] 95)).alloc (.cells #[.int .i64 k2, .int .i64 q2] 95)).alloc (.cells #[.int .i64 0, .int .i64 0] 95)) = W at *
 obtain ⟨y0, y1⟩ := KA.out.c2
 obtain ⟨x0, x1⟩ := KB.out.c2
 refine I7.wp_region_late 4 (S := fun w' => Bel W w') (by kernel_rfl) (Bel.refl _).drew (fun hHeld => ?_)
 (try dsimp only at hHeld)
 refine I7.kl (i := 0) (v := ?_) hHeld (fun w hSw => ?_) ?_
 rotate_left
 ·(have z0 := hSw.cell y0; have z1 := hSw.cell y1; go_simp; try (with_reducible rfl))
 refine I7.kl (i := 2) (v := ?_) hHeld (fun w hSw => ?_) ?_
 rotate_left
 ·(have z0 := hSw.cell x0; have z1 := hSw.cell x1; go_simp; try (with_reducible rfl))
 try simp only [Act.put, Ow.zS, Ow.zC, Ow.zD]
 refine I7.kc (i := 1) (fun K hK => ?_)
 go_simp
 go_at_call 134
 (with_reducible refine (F1.out _ (TT.out.bel (g0.out.drew))).mono ?_); rintro e w1 ⟨rfl, b1⟩
 try go_wp2_with fail
 refine hK.out _ _ (Bel.trans hHeld b1) (fun hHeld => ?_)
 clear hK K
 try simp only [Act.put, Ow.zS, Ow.zC, Ow.zD]
 refine I7.kc (i := 3) (fun K hK => ?_)
 go_simp
 go_at_call 134
 (with_reducible refine (F2.out _ (TT.out.bel (g0.out.trans hHeld))).mono ?_); rintro e w2 ⟨rfl, b2⟩
 try go_wp2_with fail
 refine hK.out _ _ (Bel.trans hHeld b2) (fun hHeld => ?_)
 clear hK K
 have K1 := Ho.mk (KA.out.bel hHeld)
 have K2 := Ho.mk (KB.out.bel hHeld)
 have KR1 := Ho.mk (KR.out.bel hHeld)
 have gg := Ho.mk (g0.out.trans hHeld)
 clear y0 y1 x0 x1 hHeld
 obtain ⟨y0, y1⟩ := K1.out.c2
 have z0 := K1.out.free 0
 have z1 := K1.out.free 1
 obtain ⟨x0, x1⟩ := K2.out.c2
 have v0 := K2.out.free 0
 have v1 := K2.out.free 1
 try simp only [Act.put, Ow.zS, Ow.zC, Ow.zD]
 refine I7.ke (i := 4) (fun K hK => ?_)
 go_simp
 refine hK.out _ _ ?_
 clear hK K
 try simp only [Act.put, Ow.zS, Ow.zC, Ow.zD]
 refine I7.ke2 (i := 5) (fun K hK => ?_)
 go_simp
 refine hK.out _ _ ?_
 clear hK K
 try simp only [Act.put, Ow.zS, Ow.zC, Ow.zD]
 refine wpAny_done (by kernel_rfl) ?_ _
 have K1 := Ho.mk ((((K1.out.set 0 (.int .i64 fk)).set 1 (.int .i64 fq)).far (p := ⟨w.heap.size + 1, 0, none⟩) (by dsimp only; omega) (.int .i64 gk)).far (p := ⟨w.heap.size + 1, 1, none⟩) (by dsimp only; omega) (.int .i64 gq))
 have K2 := Ho.mk ((((K2.out.far (p := ⟨w.heap.size, 0, none⟩) (by dsimp only; omega) (.int .i64 fk)).far (p := ⟨w.heap.size, 1, none⟩) (by dsimp only; omega) (.int .i64 fq)).set 0 (.int .i64 gk)).set 1 (.int .i64 gq))
 have KR1 := Ho.mk ((((KR1.out.far (p := ⟨w.heap.size, 0, none⟩) (by dsimp only; omega) (.int .i64 fk)).far (p := ⟨w.heap.size, 1, none⟩) (by dsimp only; omega) (.int .i64 fq)).far (p := ⟨w.heap.size + 1, 0, none⟩) (by dsimp only; omega) (.int .i64 gk)).far (p := ⟨w.heap.size + 1, 1, none⟩) (by dsimp only; omega) (.int .i64 gq))
 have gg := Ho.mk (show Bel w ((((w2.setCell ⟨w.heap.size, 0, none⟩ (.int .i64 fk)).setCell ⟨w.heap.size, 1, none⟩ (.int .i64 fq)).setCell ⟨w.heap.size + 1, 0, none⟩ (.int .i64 gk)).setCell ⟨w.heap.size + 1, 1, none⟩ (.int .i64 gq)) from
  ⟨(((gg.out.out.setCell (p := ⟨w.heap.size, 0, none⟩) (Nat.le_refl _) _).setCell (p := ⟨w.heap.size, 1, none⟩) (Nat.le_refl _) _).setCell (p := ⟨w.heap.size + 1, 0, none⟩) (Nat.le_succ _) _).setCell (p := ⟨w.heap.size + 1, 1, none⟩) (Nat.le_succ _) _⟩)
 clear y0 y1 x0 x1 z0 z1 v0 v1
 generalize (((w2.setCell ⟨w.heap.size, 0, none⟩ (.int .i64 fk)).setCell ⟨w.heap.size, 1, none⟩ (.int .i64 fq)).setCell ⟨w.heap.size + 1, 0, none⟩ (.int .i64 gk)).setCell ⟨w.heap.size + 1, 1, none⟩ (.int .i64 gq) = W3 at *
 obtain ⟨y0, y1⟩ := K1.out.c2
 obtain ⟨x0, x1⟩ := K2.out.c2
 go_wp2_with (simp only [hq])
 refine I7.wp_region_late 18 (S := fun w' => Bel W3 w') (by kernel_rfl) (Bel.refl _).drew (fun hHeld => ?_)
 (try dsimp only at hHeld)
 refine I7.kt (i := 0) hHeld ?_
 refine I7.kl (i := 1) (v := ?_) hHeld (fun w hSw => ?_) ?_
 rotate_left
 ·(have z0 := hSw.cell y0; go_simp; try (with_reducible rfl))
 refine I7.kt (i := 2) hHeld ?_
 refine I7.kt (i := 3) hHeld ?_
 refine I7.kl (i := 4) (v := ?_) hHeld (fun w hSw => ?_) ?_
 rotate_left
 ·(have z0 := hSw.cell y1; go_simp; try (with_reducible rfl))
 refine I7.kt (i := 5) hHeld ?_
 refine I7.kt (i := 6) hHeld ?_
 refine I7.kt (i := 7) hHeld ?_
 refine I7.kl (i := 8) (v := ?_) hHeld (fun w hSw => ?_) ?_
 rotate_left
 ·(have z0 := hSw.cell x0; go_simp; try (with_reducible rfl))
 refine I7.kt (i := 9) hHeld ?_
 refine I7.kt (i := 10) hHeld ?_
 refine I7.kl (i := 11) (v := ?_) hHeld (fun w hSw => ?_) ?_
 rotate_left
 ·(have z0 := hSw.cell x1; go_simp; try (with_reducible rfl))
 refine I7.kt (i := 12) hHeld ?_
 refine I7.kt (i := 13) hHeld ?_
 refine I7.kt (i := 14) hHeld ?_
 refine I7.kt (i := 15) hHeld ?_
 refine I7.kt (i := 16) hHeld ?_
 try simp only [Act.put, Ow.zS, Ow.zC, Ow.zD]
 refine I7.kc (i := 17) (fun K hK => ?_)
 go_simp
 go_at_call 134
 (with_reducible refine (F3.out _ (TT.out.bel (gg.out.trans hHeld))).mono ?_); rintro e w4 ⟨rfl, b4⟩
 try go_wp2_with fail
 refine hK.out _ _ (Bel.trans hHeld b4) (fun hHeld => ?_)
 clear hK K
 have KR2 := Ho.mk (KR1.out.bel hHeld)
 have gz := Ho.mk (gg.out.trans hHeld)
 clear y0 y1 x0 x1 hHeld
 obtain ⟨y0, y1⟩ := KR2.out.c2
 have z0 := KR2.out.free 0
 have z1 := KR2.out.free 1
 try simp only [Act.put, Ow.zS, Ow.zC, Ow.zD]
 refine I7.ke (i := 18) (fun K hK => ?_)
 go_simp
 refine hK.out _ _ ?_
 clear hK K
 try simp only [Act.put, Ow.zS, Ow.zC, Ow.zD]
 refine wpAny_done (by kernel_rfl) ?_ _
 clear y0 y1 z0 z1
 obtain ⟨y0, y1⟩ := KR2.out.c2
 have z0 := KR2.out.free 0
 have z1 := KR2.out.free 1
 go_wp2
 exact gives_endT (fn := Tryz.f137) rfl rfl gz.out (by omega) KR2.out rfl rfl
theorem form_lt (k : Int) {q : Nat} (hq : q ≤ 20) : (formN k q).1 < 2 ^ q ∧ (formN k q).2 ≤ q := by
 have hp1 : (0 : Int) < 2 ^ q := Int.pow_pos (by decide)
 have hp0 : ((2 : Int) ^ q) = ((2 ^ q : Nat) : Int) := by simp
 have g0 := Int.emod_nonneg k (Int.ne_of_gt hp1)
 have g1 := Int.emod_lt_of_pos k hp1
 unfold formN
 split
 ·exact ⟨Nat.two_pow_pos q, Nat.zero_le _⟩
 ·refine ⟨Nat.lt_of_le_of_lt (Nat.div_le_self _ _) ?_, Nat.sub_le _ _⟩
  rw [hp0] at *; omega
theorem up_wrap {a d : Nat} (ha : a < 2 ^ 20) (hd : d ≤ 20) (x y : Int) (hx : IntKind.i64.wrap (x - y) = (d : Int)) : IntKind.i64.wrap ((a : Int) * 2 ^ min (IntKind.i64.wrap (x - y)).toNat 64) = ((a * 2 ^ d : Nat) : Int) := by
 rw [hx, Int.toNat_natCast, Nat.min_eq_left (by omega)]
 have h2 : 2 ^ d ≤ 2 ^ 20 := Nat.pow_le_pow_right (by decide) hd
 have h3 : a * 2 ^ d ≤ 2 ^ 20 * 2 ^ 20 := Nat.mul_le_mul (Nat.le_of_lt ha) h2
 have e : (a : Int) * 2 ^ d = ((a * 2 ^ d : Nat) : Int) := by simp
 rw [e]
 generalize a * 2 ^ d = z at *
 have : (2 : Nat) ^ 20 * 2 ^ 20 = 1099511627776 := by decide
 rw [IntKind.wrap_i64]; omega
theorem dAddT {a b : Nat × Nat} (w : World) (T : Tab w) (ha : a.2 ≤ 20) (hb : b.2 ≤ 20) {k1 q1 k2 q2 : Int} (e1 : (a.1 : Int) = k1) (e2 : (a.2 : Int) = q1) (e3 : (b.1 : Int) = k2) (e4 : (b.2 : Int) = q2) :
  Calls Tryz.prog 137 #[.agg #[.int .i64 k1, .int .i64 q1], .agg #[.int .i64 k2, .int .i64 q2]] w (MakesT w (addT a b)) := by
 subst e1 e2 e3 e4
 obtain ⟨f1, f2⟩ := form_lt (a.1 : Int) ha
 obtain ⟨g1, g2⟩ := form_lt (b.1 : Int) hb
 have p20 : (2 : Nat) ^ 20 = 1048576 := by decide
 have pa : (2 : Nat) ^ a.2 ≤ 2 ^ 20 := Nat.pow_le_pow_right (by decide) ha
 have pb : (2 : Nat) ^ b.2 ≤ 2 ^ 20 := Nat.pow_le_pow_right (by decide) hb
 have hq : (if ((formN (a.1 : Int) a.2).2 : Int) < ((formN (b.1 : Int) b.2).2 : Int) then ((formN (b.1 : Int) b.2).2 : Int) else ((formN (a.1 : Int) a.2).2 : Int)) = ((max (formN (a.1 : Int) a.2).2 (formN (b.1 : Int) b.2).2 : Nat) : Int) := by split <;> omega
 refine dAdd (f := formN (a.1 : Int) a.2) (g := formN (b.1 : Int) b.2) (qq := ((max (formN (a.1 : Int) a.2).2 (formN (b.1 : Int) b.2).2 : Nat) : Int)) w T rfl rfl ha hb rfl rfl (by omega) (by omega) (by omega) (by omega) hq rfl (by omega)
  (up_wrap (d := max (formN (a.1 : Int) a.2).2 (formN (b.1 : Int) b.2).2 - (formN (a.1 : Int) a.2).2) (by omega) (by omega) _ _ (by rw [IntKind.wrap_i64]; omega))
  (up_wrap (d := max (formN (a.1 : Int) a.2).2 (formN (b.1 : Int) b.2).2 - (formN (b.1 : Int) b.2).2) (by omega) (by omega) _ _ (by rw [IntKind.wrap_i64]; omega)) rfl ?_
 unfold addT
 dsimp only
 have b1 : (formN (a.1 : Int) a.2).1 * 2 ^ (max (formN (a.1 : Int) a.2).2 (formN (b.1 : Int) b.2).2 - (formN (a.1 : Int) a.2).2) ≤ 2 ^ 20 * 2 ^ 20 := Nat.mul_le_mul (by omega) (Nat.pow_le_pow_right (by decide) (by omega))
 have b2 : (formN (b.1 : Int) b.2).1 * 2 ^ (max (formN (a.1 : Int) a.2).2 (formN (b.1 : Int) b.2).2 - (formN (b.1 : Int) b.2).2) ≤ 2 ^ 20 * 2 ^ 20 := Nat.mul_le_mul (by omega) (Nat.pow_le_pow_right (by decide) (by omega))
 generalize (formN (a.1 : Int) a.2).1 * 2 ^ (max (formN (a.1 : Int) a.2).2 (formN (b.1 : Int) b.2).2 - (formN (a.1 : Int) a.2).2) = x at *
 generalize (formN (b.1 : Int) b.2).1 * 2 ^ (max (formN (a.1 : Int) a.2).2 (formN (b.1 : Int) b.2).2 - (formN (b.1 : Int) b.2).2) = y at *
 rw [p20] at b1 b2
 congr 1
 rw [IntKind.wrap_i64]; omega
def MakesS (w : World) (s : Nat × (Nat × Nat)) (e : Ending) (w' : World) : Prop := e = .returned (.agg #[.int .i64 s.1, .int .i64 s.2.1, .int .i64 s.2.2]) ∧ Bel w w'
theorem res3p {fn : Func} {p : Tmp} {tmps : Array Value} {w : World} {b : Nat} {v0 v1 v2 : Value} (hf : fn.results = #[.cell p 134]) (hp : tmps.getD p undef = .pointer (some ⟨b, 0, none⟩)) (h : Blk w b 134 [v0, v1, v2]) :
  (results fn tmps).run Tryz.prog w = .ok (.agg #[v0, v1, v2]) w := by
 obtain ⟨y0, y1, y2⟩ := h.c3
 have hp2 := hp
 rw [Array.getD_eq_getD_getElem?] at hp2
 simp [results, hf, hp2, go_sem, y0, y1, y2]
theorem gives_endS {fn : Func} {p : Tmp} {tmps : Array Value} {w w2 : World} {b : Nat} {s : Nat × (Nat × Nat)} {e k q : Int} {u0 u1 u2 : Value} (hf : fn.results = #[.cell p 134]) (hp : tmps.getD p undef = .pointer (some ⟨b, 0, none⟩)) (hB : Bel w w2) (hb : w.heap.size ≤ b)
  (K : Blk w2 b 134 [u0, u1, u2]) (he : e = s.1) (hk : k = s.2.1) (hq : q = s.2.2) :
  bodyPost Tryz.prog fn (MakesS w s) .ret { tmps := tmps, defers := [] } (((w2.setCell ⟨b, 0, none⟩ (.int .i64 e)).setCell ⟨b, 1, none⟩ (.int .i64 k)).setCell ⟨b, 2, none⟩ (.int .i64 q)) := by
 subst he; subst hk; subst hq
 exact bodyPost_ret (res3p hf hp (((K.set 0 _).set 1 _).set 2 _)) rfl ⟨rfl, ⟨((hB.out.setCell (p := ⟨b, 0, none⟩) hb _).setCell (p := ⟨b, 1, none⟩) hb _).setCell (p := ⟨b, 2, none⟩) hb _⟩⟩
theorem split_zero {k qi fk fq e : Int} {q : Nat} {g r r2 : Nat × Nat} {s : Nat × (Nat × Nat)} (w : World) (T : Tab w) (h1 : (q : Int) = qi) (hq : q ≤ 20) (hf : ((formN k q).1 : Int) = fk) (hf2 : ((formN k q).2 : Int) = fq) (z1 : fk = 0) (z2 : fq = 0) (hs : s = (0, (0, 0))) :
  Calls Tryz.prog 103 #[.agg #[.int .i64 k, .int .i64 qi]] w (MakesS w s) := by
 have FO := Ho.mk (fun w T => dForm (k := k) w T h1 hq)
 unfold MakesT at FO
 rw [hf, hf2] at FO
 have HS := Ho.mk hs
 have TT := Ho.mk T
 clear T hs hf hf2 h1 hq
 go_enter Tryz.func103, Tryz.ntmps103
 go_wp2_with fail
 have KB := Ho.mk ((Blk.new w [.int .i64 k, .int .i64 qi] 95).old (.cells #[.int .i64 0, .int .i64 0, .int .i64 0] 134))
 have KR := Ho.mk (Blk.new (w.alloc (.cells #[.int .i64 k, .int .i64 qi] 95)) [.int .i64 0, .int .i64 0, .int .i64 0] 134)
 rw [World.size_alloc] at KR
 have g0 := Ho.mk (((Bel.refl w).alloc (.cells #[.int .i64 k, .int .i64 qi] 95)).alloc (.cells #[.int .i64 0, .int .i64 0, .int .i64 0] 134))
 have hS : ((w.alloc (.cells #[.int .i64 k, .int .i64 qi] 95)).alloc (.cells #[.int .i64 0, .int .i64 0, .int .i64 0] 134)).heap.size = w.heap.size + 1 + 1 := by simp only [World.size_alloc]
 generalize ((w.alloc (.cells #[.int .i64 k, .int .i64 qi] 95)).alloc (.cells #[.int .i64 0, .int .i64 0, .int .i64 0] 134)) = W at *
 obtain ⟨y0, y1⟩ := KB.out.c2
 go_wp2_with fail
 (with_reducible refine (FO.out _ (TT.out.bel g0.out)).mono ?_); rintro e w1 ⟨rfl, b1⟩
 subst z1; subst z2
 have KR1 := Ho.mk ((KR.out.bel b1).old (.cells #[.int .i64 0, .int .i64 0] 95))
 have gg := Ho.mk ((g0.out.trans b1).alloc (.cells #[.int .i64 0, .int .i64 0] 95))
 have KF := Ho.mk (Blk.new w1 [.int .i64 0, .int .i64 0] 95)
 have hF : w.heap.size + 2 ≤ w1.heap.size := by have := b1.size; omega
 clear y0 y1 b1
 obtain ⟨y0, y1⟩ := KF.out.c2
 obtain ⟨x0, x1, x2⟩ := KR1.out.c3
 have z0 := KR1.out.free 0
 have z1 := KR1.out.free 1
 have z2 := KR1.out.free 2
 go_wp2
 rw [HS.out]
 exact gives_endS (fn := Tryz.f103) (s := (0, (0, 0))) rfl rfl gg.out (by omega) KR1.out rfl rfl rfl
theorem split_le {k qi fk fq e : Int} {q : Nat} {g r r2 : Nat × Nat} {s : Nat × (Nat × Nat)} (w : World) (T : Tab w) (h1 : (q : Int) = qi) (hq : q ≤ 20) (hf : ((formN k q).1 : Int) = fk) (hf2 : ((formN k q).2 : Int) = fq) (z1 : (fk == 0) = false) (p1 : 0 ≤ fq) (p2 : fq ≤ 20) (l1 : fq < 3) (l2 : wrap64 (fk * 2 ^ (3 - fq).toNat) = e) (z2 : (e == 0) = false) (h2 : bits .and .i64 e 1 = 0) (e0 : 0 ≤ e) (e1 : e ≤ 10) (hg : (g.1 : Int) = e) (hg2 : (g.2 : Int) = 3) (hg3 : g.2 ≤ 20) (hr : addT g (formN (-e) 3) = r) (hs : s = (e.toNat, r)) :
  Calls Tryz.prog 103 #[.agg #[.int .i64 k, .int .i64 qi]] w (MakesS w s) := by
 have FO := Ho.mk (fun w T => dForm (k := k) w T h1 hq)
 unfold MakesT at FO
 rw [hf, hf2] at FO
 have HS := Ho.mk hs
 have TT := Ho.mk T
 have FR := Ho.mk (fun w T => dFrom (k := e) w T (by omega) (by omega))
 have AD := Ho.mk (fun w T => dAddT (a := g) (b := formN (-(e)) 3) w T hg3 (by have := (form_lt (-(e)) (q := 3) (by decide)).2; omega) hg hg2 rfl rfl)
 rw [hr] at AD
 unfold MakesT at FR AD
 clear hr hg hg2 hg3
 clear T hs hf hf2 h1 hq
 go_enter Tryz.func103, Tryz.ntmps103
 go_wp2_with fail
 have KB := Ho.mk ((Blk.new w [.int .i64 k, .int .i64 qi] 95).old (.cells #[.int .i64 0, .int .i64 0, .int .i64 0] 134))
 have KR := Ho.mk (Blk.new (w.alloc (.cells #[.int .i64 k, .int .i64 qi] 95)) [.int .i64 0, .int .i64 0, .int .i64 0] 134)
 rw [World.size_alloc] at KR
 have g0 := Ho.mk (((Bel.refl w).alloc (.cells #[.int .i64 k, .int .i64 qi] 95)).alloc (.cells #[.int .i64 0, .int .i64 0, .int .i64 0] 134))
 have hS : ((w.alloc (.cells #[.int .i64 k, .int .i64 qi] 95)).alloc (.cells #[.int .i64 0, .int .i64 0, .int .i64 0] 134)).heap.size = w.heap.size + 1 + 1 := by simp only [World.size_alloc]
 generalize ((w.alloc (.cells #[.int .i64 k, .int .i64 qi] 95)).alloc (.cells #[.int .i64 0, .int .i64 0, .int .i64 0] 134)) = W at *
 obtain ⟨y0, y1⟩ := KB.out.c2
 go_wp2_with fail
 (with_reducible refine (FO.out _ (TT.out.bel g0.out)).mono ?_); rintro e w1 ⟨rfl, b1⟩
 have KF0 := Ho.mk (Blk.new w1 [.int .i64 fk, .int .i64 fq] 95)
 have KR1 := Ho.mk ((KR.out.bel b1).old (.cells #[.int .i64 e, .int .i64 3] 95))
 have gg := Ho.mk ((g0.out.trans b1).alloc (.cells #[.int .i64 e, .int .i64 3] 95))
 have KF := Ho.mk (Blk.new w1 [.int .i64 e, .int .i64 3] 95)
 have hF : w.heap.size + 2 ≤ w1.heap.size := by have := b1.size; omega
 clear y0 y1 b1
 obtain ⟨y0, y1⟩ := KF0.out.c2
 have v0 := KF0.out.free 0
 have v1 := KF0.out.free 1
 go_wp2_with (simp only [l2])
 clear y0 y1 v0 v1 KF0
 generalize w1.alloc (.cells #[.int .i64 e, .int .i64 3] 95) = W1 at *
 generalize w1.heap.size = bf at *
 obtain ⟨y0, y1⟩ := KF.out.c2
 refine I7.wp_region_late 7 (S := fun w' => Bel W1 w') (by kernel_rfl) (Bel.refl _).drew (fun hHeld => ?_)
 (try dsimp only at hHeld)
 refine I7.kt (i := 0) hHeld ?_
 refine I7.kl (i := 1) (v := ?_) hHeld (fun w hSw => ?_) ?_
 rotate_left
 ·(have z0 := hSw.cell y0; have z1 := hSw.cell y1; go_simp; try (with_reducible rfl))
 refine I7.kt (i := 2) hHeld ?_
 refine I7.kt (i := 3) hHeld ?_
 try simp only [Act.put, Ow.zS, Ow.zC, Ow.zD]
 refine I7.kc (i := 4) (fun K hK => ?_)
 go_simp
 go_at_call 135
 (with_reducible refine (FR.out _ (TT.out.bel (gg.out.trans hHeld))).mono ?_); rintro e w3 ⟨rfl, b3⟩
 try go_wp2_with fail
 refine hK.out _ _ (Bel.trans hHeld b3) (fun hHeld => ?_)
 clear hK K
 try simp only [Act.put, Ow.zS, Ow.zC, Ow.zD]
 refine I7.kc (i := 5) (fun K hK => ?_)
 go_simp
 go_at_call 137
 (with_reducible refine (AD.out _ (TT.out.bel (gg.out.trans hHeld))).mono ?_); rintro e w4 ⟨rfl, b4⟩
 try go_wp2_with fail
 refine hK.out _ _ (Bel.trans hHeld b4) (fun hHeld => ?_)
 clear hK K
 refine I7.kt (i := 6) hHeld ?_
 have KR2 := Ho.mk (KR1.out.bel hHeld)
 have gz := Ho.mk (gg.out.trans hHeld)
 clear y0 y1 hHeld
 obtain ⟨x0, x1, x2⟩ := KR2.out.c3
 have z0 := KR2.out.free 0
 have z1 := KR2.out.free 1
 have z2 := KR2.out.free 2
 try simp only [Act.put, Ow.zS, Ow.zC, Ow.zD]
 refine I7.ke (i := 7) (fun K hK => ?_)
 go_simp
 refine hK.out _ _ ?_
 clear hK K
 try simp only [Act.put, Ow.zS, Ow.zC, Ow.zD]
 refine wpAny_done (by kernel_rfl) ?_ _
 go_wp2
 rw [HS.out]
 exact gives_endS (fn := Tryz.f103) (s := (e.toNat, r)) rfl rfl gz.out (by omega) KR2.out (by dsimp only; omega) rfl rfl
theorem split_lo {k qi fk fq e : Int} {q : Nat} {g r r2 : Nat × Nat} {s : Nat × (Nat × Nat)} (w : World) (T : Tab w) (h1 : (q : Int) = qi) (hq : q ≤ 20) (hf : ((formN k q).1 : Int) = fk) (hf2 : ((formN k q).2 : Int) = fq) (z1 : (fk == 0) = false) (p1 : 0 ≤ fq) (p2 : fq ≤ 20) (l1 : fq < 3) (l2 : wrap64 (fk * 2 ^ (3 - fq).toNat) = e) (z2 : (e == 0) = false) (h2 : bits .and .i64 e 1 = 1) (e0 : 0 ≤ e) (e1 : e ≤ 10) (hg : (g.1 : Int) = e) (hg2 : (g.2 : Int) = 3) (hg3 : g.2 ≤ 20) (hr : flipT (addT g (formN (-(e + 1)) 3)) = r) (hr2 : addT g (formN (-(e + 1)) 3) = r2) (hr3 : r2.1 ≤ 1000000 ∧ r2.2 ≤ 20) (hs : s = (e.toNat, r)) :
  Calls Tryz.prog 103 #[.agg #[.int .i64 k, .int .i64 qi]] w (MakesS w s) := by
 have FO := Ho.mk (fun w T => dForm (k := k) w T h1 hq)
 unfold MakesT at FO
 rw [hf, hf2] at FO
 have HS := Ho.mk hs
 have TT := Ho.mk T
 have FR := Ho.mk (fun w T => dFrom (k := e + 1) w T (by omega) (by omega))
 have AD := Ho.mk (fun w T => dAddT (a := g) (b := formN (-(e + 1)) 3) w T hg3 (by have := (form_lt (-(e + 1)) (q := 3) (by decide)).2; omega) hg hg2 rfl rfl)
 have hw : IntKind.i64.wrap (e + 1) = e + 1 := by rw [IntKind.wrap_i64]; omega
 rw [hr2] at AD hr
 have FL := Ho.mk (fun w T => dFlip (k := r2.1) (q := r2.2) w T rfl hr3.2 (by omega) (by have := hr3.1; omega))
 rw [show formN (-(r2.1 : Int)) r2.2 = r from hr] at FL
 clear hr2 hr3
 unfold MakesT at FR AD FL
 clear hr hg hg2 hg3
 clear T hs hf hf2 h1 hq
 go_enter Tryz.func103, Tryz.ntmps103
 go_wp2_with fail
 have KB := Ho.mk ((Blk.new w [.int .i64 k, .int .i64 qi] 95).old (.cells #[.int .i64 0, .int .i64 0, .int .i64 0] 134))
 have KR := Ho.mk (Blk.new (w.alloc (.cells #[.int .i64 k, .int .i64 qi] 95)) [.int .i64 0, .int .i64 0, .int .i64 0] 134)
 rw [World.size_alloc] at KR
 have g0 := Ho.mk (((Bel.refl w).alloc (.cells #[.int .i64 k, .int .i64 qi] 95)).alloc (.cells #[.int .i64 0, .int .i64 0, .int .i64 0] 134))
 have hS : ((w.alloc (.cells #[.int .i64 k, .int .i64 qi] 95)).alloc (.cells #[.int .i64 0, .int .i64 0, .int .i64 0] 134)).heap.size = w.heap.size + 1 + 1 := by simp only [World.size_alloc]
 generalize ((w.alloc (.cells #[.int .i64 k, .int .i64 qi] 95)).alloc (.cells #[.int .i64 0, .int .i64 0, .int .i64 0] 134)) = W at *
 obtain ⟨y0, y1⟩ := KB.out.c2
 go_wp2_with fail
 (with_reducible refine (FO.out _ (TT.out.bel g0.out)).mono ?_); rintro e w1 ⟨rfl, b1⟩
 have KF0 := Ho.mk (Blk.new w1 [.int .i64 fk, .int .i64 fq] 95)
 have KR1 := Ho.mk ((KR.out.bel b1).old (.cells #[.int .i64 e, .int .i64 3] 95))
 have gg := Ho.mk ((g0.out.trans b1).alloc (.cells #[.int .i64 e, .int .i64 3] 95))
 have KF := Ho.mk (Blk.new w1 [.int .i64 e, .int .i64 3] 95)
 have hF : w.heap.size + 2 ≤ w1.heap.size := by have := b1.size; omega
 clear y0 y1 b1
 obtain ⟨y0, y1⟩ := KF0.out.c2
 have v0 := KF0.out.free 0
 have v1 := KF0.out.free 1
 go_wp2_with (simp only [l2])
 clear y0 y1 v0 v1 KF0
 generalize w1.alloc (.cells #[.int .i64 e, .int .i64 3] 95) = W1 at *
 generalize w1.heap.size = bf at *
 obtain ⟨y0, y1⟩ := KF.out.c2
 refine I7.wp_region_late 9 (S := fun w' => Bel W1 w') (by kernel_rfl) (Bel.refl _).drew (fun hHeld => ?_)
 (try dsimp only at hHeld)
 refine I7.kt (i := 0) hHeld ?_
 refine I7.kl (i := 1) (v := ?_) hHeld (fun w hSw => ?_) ?_
 rotate_left
 ·(have z0 := hSw.cell y0; have z1 := hSw.cell y1; go_simp; try (with_reducible rfl))
 refine I7.kt (i := 2) hHeld ?_
 refine I7.kt (i := 3) hHeld ?_
 refine I7.kt (i := 4) hHeld ?_
 try simp only [Act.put, Ow.zS, Ow.zC, Ow.zD]
 refine I7.kc (i := 5) (fun K hK => ?_)
 go_simp
 go_at_call 135
 (with_reducible refine (FR.out _ (TT.out.bel (gg.out.trans hHeld))).mono ?_); rintro e w3 ⟨rfl, b3⟩
 try go_wp2_with fail
 refine hK.out _ _ (Bel.trans hHeld b3) (fun hHeld => ?_)
 clear hK K
 try simp only [Act.put, Ow.zS, Ow.zC, Ow.zD]
 refine I7.kc (i := 6) (fun K hK => ?_)
 go_simp
 go_at_call 137
 (with_reducible refine (AD.out _ (TT.out.bel (gg.out.trans hHeld))).mono ?_); rintro e w4 ⟨rfl, b4⟩
 try go_wp2_with fail
 refine hK.out _ _ (Bel.trans hHeld b4) (fun hHeld => ?_)
 clear hK K
 try simp only [Act.put, Ow.zS, Ow.zC, Ow.zD]
 refine I7.kc (i := 7) (fun K hK => ?_)
 go_simp
 go_at_call 136
 (with_reducible refine (FL.out _ (TT.out.bel (gg.out.trans hHeld))).mono ?_); rintro e w5 ⟨rfl, b5⟩
 try go_wp2_with fail
 refine hK.out _ _ (Bel.trans hHeld b5) (fun hHeld => ?_)
 clear hK K
 refine I7.kt (i := 8) hHeld ?_
 have KR2 := Ho.mk (KR1.out.bel hHeld)
 have gz := Ho.mk (gg.out.trans hHeld)
 clear y0 y1 hHeld
 obtain ⟨x0, x1, x2⟩ := KR2.out.c3
 have z0 := KR2.out.free 0
 have z1 := KR2.out.free 1
 have z2 := KR2.out.free 2
 try simp only [Act.put, Ow.zS, Ow.zC, Ow.zD]
 refine I7.ke (i := 9) (fun K hK => ?_)
 go_simp
 refine hK.out _ _ ?_
 clear hK K
 try simp only [Act.put, Ow.zS, Ow.zC, Ow.zD]
 refine wpAny_done (by kernel_rfl) ?_ _
 go_wp2
 rw [HS.out]
 exact gives_endS (fn := Tryz.f103) (s := (e.toNat, r)) rfl rfl gz.out (by omega) KR2.out (by dsimp only; omega) rfl rfl
theorem split_he {k qi fk fq e : Int} {q : Nat} {g r r2 : Nat × Nat} {s : Nat × (Nat × Nat)} (w : World) (T : Tab w) (h1 : (q : Int) = qi) (hq : q ≤ 20) (hf : ((formN k q).1 : Int) = fk) (hf2 : ((formN k q).2 : Int) = fq) (z1 : (fk == 0) = false) (p1 : 0 ≤ fq) (p2 : fq ≤ 20) (l1 : 3 ≤ fq) (he : fk / 2 ^ (fq - 3).toNat = e) (h2 : bits .and .i64 e 1 = 0) (e0 : 0 ≤ e) (e1 : e ≤ 10) (hg : (g.1 : Int) = fk) (hg2 : (g.2 : Int) = fq) (hg3 : g.2 ≤ 20) (hr : addT g (formN (-e) 3) = r) (hs : s = (e.toNat, r)) :
  Calls Tryz.prog 103 #[.agg #[.int .i64 k, .int .i64 qi]] w (MakesS w s) := by
 have FO := Ho.mk (fun w T => dForm (k := k) w T h1 hq)
 unfold MakesT at FO
 rw [hf, hf2] at FO
 have HS := Ho.mk hs
 have TT := Ho.mk T
 have FR := Ho.mk (fun w T => dFrom (k := e) w T (by omega) (by omega))
 have AD := Ho.mk (fun w T => dAddT (a := g) (b := formN (-(e)) 3) w T hg3 (by have := (form_lt (-(e)) (q := 3) (by decide)).2; omega) hg hg2 rfl rfl)
 rw [hr] at AD
 unfold MakesT at FR AD
 clear hr hg hg2 hg3
 clear T hs hf hf2 h1 hq
 go_enter Tryz.func103, Tryz.ntmps103
 go_wp2_with fail
 have KB := Ho.mk ((Blk.new w [.int .i64 k, .int .i64 qi] 95).old (.cells #[.int .i64 0, .int .i64 0, .int .i64 0] 134))
 have KR := Ho.mk (Blk.new (w.alloc (.cells #[.int .i64 k, .int .i64 qi] 95)) [.int .i64 0, .int .i64 0, .int .i64 0] 134)
 rw [World.size_alloc] at KR
 have g0 := Ho.mk (((Bel.refl w).alloc (.cells #[.int .i64 k, .int .i64 qi] 95)).alloc (.cells #[.int .i64 0, .int .i64 0, .int .i64 0] 134))
 have hS : ((w.alloc (.cells #[.int .i64 k, .int .i64 qi] 95)).alloc (.cells #[.int .i64 0, .int .i64 0, .int .i64 0] 134)).heap.size = w.heap.size + 1 + 1 := by simp only [World.size_alloc]
 generalize ((w.alloc (.cells #[.int .i64 k, .int .i64 qi] 95)).alloc (.cells #[.int .i64 0, .int .i64 0, .int .i64 0] 134)) = W at *
 obtain ⟨y0, y1⟩ := KB.out.c2
 go_wp2_with fail
 (with_reducible refine (FO.out _ (TT.out.bel g0.out)).mono ?_); rintro e w1 ⟨rfl, b1⟩
 have KF0 := Ho.mk (Blk.new w1 [.int .i64 fk, .int .i64 fq] 95)
 have KR1 := Ho.mk ((KR.out.bel b1).old (.cells #[.int .i64 fk, .int .i64 fq] 95))
 have gg := Ho.mk ((g0.out.trans b1).alloc (.cells #[.int .i64 fk, .int .i64 fq] 95))
 have KF := Ho.mk (Blk.new w1 [.int .i64 fk, .int .i64 fq] 95)
 have hF : w.heap.size + 2 ≤ w1.heap.size := by have := b1.size; omega
 clear y0 y1 b1
 obtain ⟨y0, y1⟩ := KF0.out.c2
 have v0 := KF0.out.free 0
 have v1 := KF0.out.free 1
 go_wp2_with (simp only [he])
 clear y0 y1 v0 v1 KF0
 generalize w1.alloc (.cells #[.int .i64 fk, .int .i64 fq] 95) = W1 at *
 generalize w1.heap.size = bf at *
 obtain ⟨y0, y1⟩ := KF.out.c2
 refine I7.wp_region_late 7 (S := fun w' => Bel W1 w') (by kernel_rfl) (Bel.refl _).drew (fun hHeld => ?_)
 (try dsimp only at hHeld)
 refine I7.kt (i := 0) hHeld ?_
 refine I7.kl (i := 1) (v := ?_) hHeld (fun w hSw => ?_) ?_
 rotate_left
 ·(have z0 := hSw.cell y0; have z1 := hSw.cell y1; go_simp; try (with_reducible rfl))
 refine I7.kt (i := 2) hHeld ?_
 refine I7.kt (i := 3) hHeld ?_
 try simp only [Act.put, Ow.zS, Ow.zC, Ow.zD]
 refine I7.kc (i := 4) (fun K hK => ?_)
 go_simp
 go_at_call 135
 (with_reducible refine (FR.out _ (TT.out.bel (gg.out.trans hHeld))).mono ?_); rintro e w3 ⟨rfl, b3⟩
 try go_wp2_with fail
 refine hK.out _ _ (Bel.trans hHeld b3) (fun hHeld => ?_)
 clear hK K
 try simp only [Act.put, Ow.zS, Ow.zC, Ow.zD]
 refine I7.kc (i := 5) (fun K hK => ?_)
 go_simp
 go_at_call 137
 (with_reducible refine (AD.out _ (TT.out.bel (gg.out.trans hHeld))).mono ?_); rintro e w4 ⟨rfl, b4⟩
 try go_wp2_with fail
 refine hK.out _ _ (Bel.trans hHeld b4) (fun hHeld => ?_)
 clear hK K
 refine I7.kt (i := 6) hHeld ?_
 have KR2 := Ho.mk (KR1.out.bel hHeld)
 have gz := Ho.mk (gg.out.trans hHeld)
 clear y0 y1 hHeld
 obtain ⟨x0, x1, x2⟩ := KR2.out.c3
 have z0 := KR2.out.free 0
 have z1 := KR2.out.free 1
 have z2 := KR2.out.free 2
 try simp only [Act.put, Ow.zS, Ow.zC, Ow.zD]
 refine I7.ke (i := 7) (fun K hK => ?_)
 go_simp
 refine hK.out _ _ ?_
 clear hK K
 try simp only [Act.put, Ow.zS, Ow.zC, Ow.zD]
 refine wpAny_done (by kernel_rfl) ?_ _
 go_wp2
 rw [HS.out]
 exact gives_endS (fn := Tryz.f103) (s := (e.toNat, r)) rfl rfl gz.out (by omega) KR2.out (by dsimp only; omega) rfl rfl
theorem split_ho {k qi fk fq e : Int} {q : Nat} {g r r2 : Nat × Nat} {s : Nat × (Nat × Nat)} (w : World) (T : Tab w) (h1 : (q : Int) = qi) (hq : q ≤ 20) (hf : ((formN k q).1 : Int) = fk) (hf2 : ((formN k q).2 : Int) = fq) (z1 : (fk == 0) = false) (p1 : 0 ≤ fq) (p2 : fq ≤ 20) (l1 : 3 ≤ fq) (he : fk / 2 ^ (fq - 3).toNat = e) (h2 : bits .and .i64 e 1 = 1) (e0 : 0 ≤ e) (e1 : e ≤ 10) (hg : (g.1 : Int) = fk) (hg2 : (g.2 : Int) = fq) (hg3 : g.2 ≤ 20) (hr : flipT (addT g (formN (-(e + 1)) 3)) = r) (hr2 : addT g (formN (-(e + 1)) 3) = r2) (hr3 : r2.1 ≤ 1000000 ∧ r2.2 ≤ 20) (hs : s = (e.toNat, r)) :
  Calls Tryz.prog 103 #[.agg #[.int .i64 k, .int .i64 qi]] w (MakesS w s) := by
 have FO := Ho.mk (fun w T => dForm (k := k) w T h1 hq)
 unfold MakesT at FO
 rw [hf, hf2] at FO
 have HS := Ho.mk hs
 have TT := Ho.mk T
 have FR := Ho.mk (fun w T => dFrom (k := e + 1) w T (by omega) (by omega))
 have AD := Ho.mk (fun w T => dAddT (a := g) (b := formN (-(e + 1)) 3) w T hg3 (by have := (form_lt (-(e + 1)) (q := 3) (by decide)).2; omega) hg hg2 rfl rfl)
 have hw : IntKind.i64.wrap (e + 1) = e + 1 := by rw [IntKind.wrap_i64]; omega
 rw [hr2] at AD hr
 have FL := Ho.mk (fun w T => dFlip (k := r2.1) (q := r2.2) w T rfl hr3.2 (by omega) (by have := hr3.1; omega))
 rw [show formN (-(r2.1 : Int)) r2.2 = r from hr] at FL
 clear hr2 hr3
 unfold MakesT at FR AD FL
 clear hr hg hg2 hg3
 clear T hs hf hf2 h1 hq
 go_enter Tryz.func103, Tryz.ntmps103
 go_wp2_with fail
 have KB := Ho.mk ((Blk.new w [.int .i64 k, .int .i64 qi] 95).old (.cells #[.int .i64 0, .int .i64 0, .int .i64 0] 134))
 have KR := Ho.mk (Blk.new (w.alloc (.cells #[.int .i64 k, .int .i64 qi] 95)) [.int .i64 0, .int .i64 0, .int .i64 0] 134)
 rw [World.size_alloc] at KR
 have g0 := Ho.mk (((Bel.refl w).alloc (.cells #[.int .i64 k, .int .i64 qi] 95)).alloc (.cells #[.int .i64 0, .int .i64 0, .int .i64 0] 134))
 have hS : ((w.alloc (.cells #[.int .i64 k, .int .i64 qi] 95)).alloc (.cells #[.int .i64 0, .int .i64 0, .int .i64 0] 134)).heap.size = w.heap.size + 1 + 1 := by simp only [World.size_alloc]
 generalize ((w.alloc (.cells #[.int .i64 k, .int .i64 qi] 95)).alloc (.cells #[.int .i64 0, .int .i64 0, .int .i64 0] 134)) = W at *
 obtain ⟨y0, y1⟩ := KB.out.c2
 go_wp2_with fail
 (with_reducible refine (FO.out _ (TT.out.bel g0.out)).mono ?_); rintro e w1 ⟨rfl, b1⟩
 have KF0 := Ho.mk (Blk.new w1 [.int .i64 fk, .int .i64 fq] 95)
 have KR1 := Ho.mk ((KR.out.bel b1).old (.cells #[.int .i64 fk, .int .i64 fq] 95))
 have gg := Ho.mk ((g0.out.trans b1).alloc (.cells #[.int .i64 fk, .int .i64 fq] 95))
 have KF := Ho.mk (Blk.new w1 [.int .i64 fk, .int .i64 fq] 95)
 have hF : w.heap.size + 2 ≤ w1.heap.size := by have := b1.size; omega
 clear y0 y1 b1
 obtain ⟨y0, y1⟩ := KF0.out.c2
 have v0 := KF0.out.free 0
 have v1 := KF0.out.free 1
 go_wp2_with (simp only [he])
 clear y0 y1 v0 v1 KF0
 generalize w1.alloc (.cells #[.int .i64 fk, .int .i64 fq] 95) = W1 at *
 generalize w1.heap.size = bf at *
 obtain ⟨y0, y1⟩ := KF.out.c2
 refine I7.wp_region_late 9 (S := fun w' => Bel W1 w') (by kernel_rfl) (Bel.refl _).drew (fun hHeld => ?_)
 (try dsimp only at hHeld)
 refine I7.kt (i := 0) hHeld ?_
 refine I7.kl (i := 1) (v := ?_) hHeld (fun w hSw => ?_) ?_
 rotate_left
 ·(have z0 := hSw.cell y0; have z1 := hSw.cell y1; go_simp; try (with_reducible rfl))
 refine I7.kt (i := 2) hHeld ?_
 refine I7.kt (i := 3) hHeld ?_
 refine I7.kt (i := 4) hHeld ?_
 try simp only [Act.put, Ow.zS, Ow.zC, Ow.zD]
 refine I7.kc (i := 5) (fun K hK => ?_)
 go_simp
 go_at_call 135
 (with_reducible refine (FR.out _ (TT.out.bel (gg.out.trans hHeld))).mono ?_); rintro e w3 ⟨rfl, b3⟩
 try go_wp2_with fail
 refine hK.out _ _ (Bel.trans hHeld b3) (fun hHeld => ?_)
 clear hK K
 try simp only [Act.put, Ow.zS, Ow.zC, Ow.zD]
 refine I7.kc (i := 6) (fun K hK => ?_)
 go_simp
 go_at_call 137
 (with_reducible refine (AD.out _ (TT.out.bel (gg.out.trans hHeld))).mono ?_); rintro e w4 ⟨rfl, b4⟩
 try go_wp2_with fail
 refine hK.out _ _ (Bel.trans hHeld b4) (fun hHeld => ?_)
 clear hK K
 try simp only [Act.put, Ow.zS, Ow.zC, Ow.zD]
 refine I7.kc (i := 7) (fun K hK => ?_)
 go_simp
 go_at_call 136
 (with_reducible refine (FL.out _ (TT.out.bel (gg.out.trans hHeld))).mono ?_); rintro e w5 ⟨rfl, b5⟩
 try go_wp2_with fail
 refine hK.out _ _ (Bel.trans hHeld b5) (fun hHeld => ?_)
 clear hK K
 refine I7.kt (i := 8) hHeld ?_
 have KR2 := Ho.mk (KR1.out.bel hHeld)
 have gz := Ho.mk (gg.out.trans hHeld)
 clear y0 y1 hHeld
 obtain ⟨x0, x1, x2⟩ := KR2.out.c3
 have z0 := KR2.out.free 0
 have z1 := KR2.out.free 1
 have z2 := KR2.out.free 2
 try simp only [Act.put, Ow.zS, Ow.zC, Ow.zD]
 refine I7.ke (i := 9) (fun K hK => ?_)
 go_simp
 refine hK.out _ _ ?_
 clear hK K
 try simp only [Act.put, Ow.zS, Ow.zC, Ow.zD]
 refine wpAny_done (by kernel_rfl) ?_ _
 go_wp2
 rw [HS.out]
 exact gives_endS (fn := Tryz.f103) (s := (e.toNat, r)) rfl rfl gz.out (by omega) KR2.out (by dsimp only; omega) rfl rfl
theorem and_one (e : Nat) (h : e < 1000) : bits .and .i64 (e : Int) 1 = ((e % 2 : Nat) : Int) := by
 have := i64_mask (e : Int) 1 (by decide)
 rw [show ((2 : Int) ^ 1 - 1) = 1 from by decide] at this
 rw [this]; simp
theorem tz_split2 {m : Nat} (h : m ≠ 0) : 0 < m / 2 ^ tz m := by
 have hd : odd m * 2 ^ tz m = m := odd_eq m
 have : m / 2 ^ tz m = odd m := rfl
 rw [this]
 rcases Nat.eq_zero_or_pos (odd m) with e | e
 ·rw [e, Nat.zero_mul] at hd; omega
 ·exact e
theorem add_small (a b : Nat × Nat) (ha : a.2 ≤ 9) (hb : b.2 ≤ 9) : (addT a b).1 ≤ 1000000 ∧ (addT a b).2 ≤ 20 := by
 unfold addT
 dsimp only
 have f1 := form_lt (a.1 : Int) (q := a.2) (by omega)
 have f2 := form_lt (b.1 : Int) (q := b.2) (by omega)
 have hm : max (formN (a.1 : Int) a.2).2 (formN (b.1 : Int) b.2).2 ≤ 9 := by omega
 obtain ⟨h1, h2⟩ := form_lt (((formN (a.1 : Int) a.2).1 * 2 ^ (max (formN (a.1 : Int) a.2).2 (formN (b.1 : Int) b.2).2 - (formN (a.1 : Int) a.2).2) + (formN (b.1 : Int) b.2).1 * 2 ^ (max (formN (a.1 : Int) a.2).2 (formN (b.1 : Int) b.2).2 - (formN (b.1 : Int) b.2).2) : Nat) : Int) (q := max (formN (a.1 : Int) a.2).2 (formN (b.1 : Int) b.2).2) (by omega)
 have hp : 2 ^ max (formN (a.1 : Int) a.2).2 (formN (b.1 : Int) b.2).2 ≤ 2 ^ 9 := Nat.pow_le_pow_right (by decide) hm
 have p9 : (2 : Nat) ^ 9 = 512 := by decide
 omega
theorem dSplit {k qi : Int} {q : Nat} (w : World) (T : Tab w) (hqi : (q : Int) = qi) (hq : q ≤ 9) : Calls Tryz.prog 103 #[.agg #[.int .i64 k, .int .i64 qi]] w (MakesS w (splitT k q)) := by
 obtain ⟨f1, f2⟩ := form_lt k (q := q) (by omega)
 have hpq : (2 : Nat) ^ q ≤ 2 ^ 9 := Nat.pow_le_pow_right (by decide) hq
 have p9 : (2 : Nat) ^ 9 = 512 := by decide
 have hz : (formN k q).1 = 0 → formN k q = (0, 0) := by
  unfold formN
  split
  ·intro _; rfl
  ·rename_i h
   intro h2
   exfalso
   have := tz_split2 h
   rw [← tzE_eq] at this
   dsimp only at h2
   rw [h2] at this; omega
 have hs := split_entry k hq
 by_cases h0 : formN k q = (0, 0)
 ·refine split_zero (fk := 0) (fq := 0) (e := 0) (g := (0, 0)) (r := (0, 0)) (r2 := (0, 0)) w T hqi (by omega) (by rw [h0]; rfl) (by rw [h0]; rfl) rfl rfl ?_
  unfold splitT
  rw [h0]; rfl
 ·have hk0 : (formN k q).1 ≠ 0 := fun e => h0 (hz e)
  have hne : (((formN k q).1 : Int) == 0) = false := beq_eq_false_iff_ne.2 (by omega)
  by_cases h3 : (formN k q).2 < 3
  ·have hup : upT (formN k q) = ((formN k q).1 * 2 ^ (3 - (formN k q).2), 3) := by unfold upT; rw [if_pos ⟨h3, h0⟩]
   have hpos : 0 < (formN k q).1 * 2 ^ (3 - (formN k q).2) := Nat.mul_pos (by omega) (Nat.two_pow_pos _)
   have hup0 : upT (formN k q) ≠ (0, 0) := by rw [hup]; intro e; injection e with e1 e2; omega
   have he : (upT (formN k q)).1 / 2 ^ ((upT (formN k q)).2 - 3) = (formN k q).1 * 2 ^ (3 - (formN k q).2) := by rw [hup]; exact Nat.div_one _
   have hst : splitT k q = if ((formN k q).1 * 2 ^ (3 - (formN k q).2)) % 2 = 0 then ((formN k q).1 * 2 ^ (3 - (formN k q).2), addT ((formN k q).1 * 2 ^ (3 - (formN k q).2), 3) (flipT ((formN k q).1 * 2 ^ (3 - (formN k q).2), 3)))
     else ((formN k q).1 * 2 ^ (3 - (formN k q).2), flipT (addT ((formN k q).1 * 2 ^ (3 - (formN k q).2), 3) (flipT ((formN k q).1 * 2 ^ (3 - (formN k q).2) + 1, 3)))) := by
    unfold splitT
    dsimp only
    rw [if_neg hup0, he, hup]
   have hle : (formN k q).1 * 2 ^ (3 - (formN k q).2) ≤ 7 := by
    have := hs.2.1
    rw [hst] at this
    split at this <;> exact this
   have e1 : ((formN k q).1 : Int) * 2 ^ (3 - ((formN k q).2 : Int)).toNat = (((formN k q).1 * 2 ^ (3 - (formN k q).2) : Nat) : Int) := by
    rw [show (3 - ((formN k q).2 : Int)).toNat = 3 - (formN k q).2 by omega]; simp
   generalize (formN k q).1 * 2 ^ (3 - (formN k q).2) = E at *
   by_cases ho : E % 2 = 0
   ·refine split_le (r2 := (0, 0)) (g := (E, 3)) (e := (E : Int)) w T hqi (by omega) rfl rfl hne (by omega) (by omega) (by omega) (by rw [e1]; unfold wrap64; omega) (beq_eq_false_iff_ne.2 (by omega)) (by rw [and_one E (by omega), ho]; rfl) (by omega) (by omega) rfl rfl (by dsimp only; omega) rfl ?_
    rw [hst, if_pos ho]; rfl
   ·refine split_lo (g := (E, 3)) (e := (E : Int)) w T hqi (by omega) rfl rfl hne (by omega) (by omega) (by omega) (by rw [e1]; unfold wrap64; omega) (beq_eq_false_iff_ne.2 (by omega)) (by rw [and_one E (by omega), show E % 2 = 1 by omega]; rfl) (by omega) (by omega) rfl rfl (by dsimp only; omega) rfl rfl ?_ ?_
    ·exact add_small _ _ (by dsimp only; omega) (Nat.le_trans (form_lt _ (q := 3) (by decide)).2 (by decide))
    ·rw [hst, if_neg ho]; rfl
  ·have hup : upT (formN k q) = formN k q := by unfold upT; rw [if_neg (fun h => h3 h.1)]
   have hst : splitT k q = if ((formN k q).1 / 2 ^ ((formN k q).2 - 3)) % 2 = 0 then ((formN k q).1 / 2 ^ ((formN k q).2 - 3), addT (formN k q) (flipT ((formN k q).1 / 2 ^ ((formN k q).2 - 3), 3)))
     else ((formN k q).1 / 2 ^ ((formN k q).2 - 3), flipT (addT (formN k q) (flipT ((formN k q).1 / 2 ^ ((formN k q).2 - 3) + 1, 3)))) := by
    unfold splitT
    dsimp only
    rw [hup, if_neg h0]
   have hle : (formN k q).1 / 2 ^ ((formN k q).2 - 3) ≤ 7 := by
    have := hs.2.1
    rw [hst] at this
    split at this <;> exact this
   have e1 : ((formN k q).1 : Int) / 2 ^ (((formN k q).2 : Int) - 3).toNat = (((formN k q).1 / 2 ^ ((formN k q).2 - 3) : Nat) : Int) := by
    rw [show (((formN k q).2 : Int) - 3).toNat = (formN k q).2 - 3 by omega]; simp
   generalize hE : (formN k q).1 / 2 ^ ((formN k q).2 - 3) = E at *
   by_cases ho : E % 2 = 0
   ·refine split_he (r2 := (0, 0)) (g := formN k q) (e := (E : Int)) w T hqi (by omega) rfl rfl hne (by omega) (by omega) (by omega) e1 (by rw [and_one E (by omega), ho]; rfl) (by omega) (by omega) rfl rfl (by omega) rfl ?_
    rw [hst, if_pos ho]; rfl
   ·refine split_ho (g := formN k q) (e := (E : Int)) w T hqi (by omega) rfl rfl hne (by omega) (by omega) (by omega) e1 (by rw [and_one E (by omega), show E % 2 = 1 by omega]; rfl) (by omega) (by omega) rfl rfl (by omega) rfl rfl ?_ ?_
    ·exact add_small _ _ (by omega) (Nat.le_trans (form_lt _ (q := 3) (by decide)).2 (by decide))
    ·rw [hst, if_neg ho]; rfl
end U1
namespace C6
open Go Go.RowKit Go.Proofs Go.Proofs.YtalbgklfhabnkaaGreatDoor Ow Pl Dp Dt D3 F1 T0 I0 I4 V2 T1
open Go.Proofs.YtalbgklfhabnkaaGreatDoor.V1 (NI St ni_same ni_loop St.refl St.of_bel rd_keep dv_keep blk_keep ni_blk put_st)
open C0 C1 C3 C5
attribute [local go_sem ↓] Go.wp_at_zero Go.wp_at_succ
attribute [local go_sem] Oper.semAt_some
theorem dHalves {wi : Int} (w : World) :
  Calls Tryz.prog 197 #[.int .i64 wi] w
   (fun e w' => e = .returned (.func (.func 209) #[] #[.pointer (some ⟨w.heap.size, 0, none⟩)]) ∧ w' = w.alloc (.cells #[.int .i64 wi] 3)) := by
 go_enter Tryz.func197, Tryz.ntmps197
 go_wp2
 refine bodyPost_ret (results_tmp rfl _ _ _) rfl ?_
 simp
theorem leaveAny {fn : Func} {R : Ending → World → Prop} {tmps : Array Value} {w : World} {k n : Nat} (hd : w.heap[k]? = some (.deferred (some []))) (E : bodyPost Tryz.prog fn R .ret { tmps := tmps, defers := [] } (w.putObj k (.deferred none))) :
  bodyPostM Fence.wide n Tryz.prog fn R .ret { tmps := tmps, defers := [{ target := .collected k, args := #[] }] } w := by
 obtain ⟨_, v, hr, hR⟩ := E
 exact ⟨(fun h => by cases h), .inl ⟨k, _, rfl, run_takeDeferred hd, ⟨v, hr, hR⟩⟩⟩
theorem put_set12 {w : World} {k b : Nat} {o : Obj} (h : b ≠ k) (v0 v1 v2 v3 v4 v5 v6 v7 v8 v9 va vb : Value) : (set12 w b v0 v1 v2 v3 v4 v5 v6 v7 v8 v9 va vb).putObj k o = set12 (w.putObj k o) b v0 v1 v2 v3 v4 v5 v6 v7 v8 v9 va vb := by
 unfold set12
 iterate 12 rw [J3.put_set h]
theorem leaveP {fn : Func} {t : Tmp} {tmps : Array Value} {w w2 : World} {p : Pt} {bl a b c d L U k n : Nat} {A B C D : Option Addr} (hf : fn.results = #[.cell t 219]) (hp : tmps.getD t undef = .pointer (some ⟨bl, 0, none⟩)) (hB : Bel w w2) (hb : w.heap.size ≤ bl)
  (K : Blk w2 bl 219 [.bool false, .slice none 0 0, .int .i64 0, .bool false, .slice none 0 0, .int .i64 0, .bool false, .slice none 0 0, .int .i64 0, .bool false, .slice none 0 0, .int .i64 0]) (h1 : Dv w2 A a p.1.1 L U) (h2 : Dv w2 B b p.1.2 L U) (h3 : Dv w2 C c p.2.1 L U) (h4 : Dv w2 D d p.2.2 L U) (hd : w2.heap[k]? = some (.deferred (some []))) (hk : w.heap.size ≤ k) :
  bodyPostM Fence.wide n Tryz.prog fn (MakesP w p L U) .ret { tmps := tmps, defers := [{ target := .collected k, args := #[] }] }
   (set12 w2 bl (.bool (dneg p.1.1)) (.slice A (digs (dm p.1.1)).length a) (.int .i64 (de p.1.1)) (.bool (dneg p.1.2)) (.slice B (digs (dm p.1.2)).length b) (.int .i64 (de p.1.2)) (.bool (dneg p.2.1)) (.slice C (digs (dm p.2.1)).length c) (.int .i64 (de p.2.1)) (.bool (dneg p.2.2)) (.slice D (digs (dm p.2.2)).length d) (.int .i64 (de p.2.2))) := by
 have hbk : bl ≠ k := by rintro rfl; have := K.out; rw [hd] at this; simp at this
 have nk : NI w2 k := fun ad e z hc => by unfold World.cell? at hc; rw [e, hd] at hc; simp at hc
 have st : ∀ j, j < w2.heap.size → (w2.putObj k (.deferred none)).heap[j]? = w2.heap[j]? ∨ NI w2 j := fun j hj => by
  by_cases e : j = k
  ·subst e; exact .inr nk
  ·exact .inl (World.putObj_heap_other e)
 refine leaveAny ?_ ?_
 ·rw [set12_other (Ne.symm hbk)]; exact hd
 ·rw [put_set12 hbk]
  have KB := blk_keep (v := w2.putObj k (.deferred none)) K (World.putObj_heap_other hbk)
  exact gives_endP hf hp ⟨⟨hB.out.os, hB.out.tape, hB.out.output, by have := hB.size; simpa using this, fun j hj => (World.putObj_heap_other (by omega)).trans (hB.out.block j hj)⟩⟩ hb KB (ni_zero KB) (dv_keep h1 st) (dv_keep h2 st) (dv_keep h3 st) (dv_keep h4 st)
structure IR (W0 : World) (S b5 : Nat) (ki Qi wi : Int) (k Q w m j : Nat) (O : List Nat) (W : World) : Prop where
 bel : Bel W0 W
 big : b5 + 3 ≤ W.heap.size
 own : ∀ q ∈ O, b5 + 3 ≤ q
 top : ∀ q ∈ O, q < W.heap.size
 kt : Blk W S 95 [.int .i64 ki, .int .i64 Qi]
 kw : Blk W (S + 1) 3 [.int .i64 wi]
 res : Blk W (S + 1 + 1) 219 [.bool false, .slice none 0 0, .int .i64 0, .bool false, .slice none 0 0, .int .i64 0, .bool false, .slice none 0 0, .int .i64 0, .bool false, .slice none 0 0, .int .i64 0]
 kq : Blk W (b5 + 1) 3 [.int .i64 (3 + m : Nat)]
 pt : ∃ x : Pc, Blk W b5 219 x.cells ∧ x.Dv W ∧ x.p = restP k Q w j
theorem ir_abides {W0 : World} {S b5 : Nat} {ki Qi wi : Int} {k Q w m j : Nat} (h0 : W0.heap.size ≤ S) (h1 : S + 3 ≤ b5) : V1.Abides fun O W => IR W0 S b5 ki Qi wi k Q w m j O W := by
 rintro O A O' B h hs h2 h3
 have same : ∀ q, q < A.heap.size → q ∉ O → B.heap[q]? = A.heap[q]? := fun q hq hn => (hs.block q hq).elim id (fun z => (hn z.1).elim)
 have low : ∀ q, q < b5 + 3 → q ∉ O := fun q hq z => by have := h.own q z; omega
 have hb := h.big
 have sz := hs.size
 obtain ⟨x, hx1, hx2, hx3⟩ := h.pt
 exact ⟨⟨⟨hs.os.trans h.bel.out.os, hs.tape.trans h.bel.out.tape, hs.output.trans h.bel.out.output, Nat.le_trans h.bel.size sz, fun q hq => (same q (Nat.lt_of_lt_of_le hq h.bel.size) (low q (by omega))).trans (h.bel.out.block q hq)⟩⟩, by omega,
  fun q hq => (h3 q hq).elim (h.own q) (fun z => by omega), fun q hq => (h3 q hq).elim (fun z => Nat.lt_of_lt_of_le (h.top q z) sz) (fun z => z.2),
  blk_keep h.kt (same _ (by omega) (low _ (by omega))), blk_keep h.kw (same _ (by omega) (low _ (by omega))), blk_keep h.res (same _ (by omega) (low _ (by omega))), blk_keep h.kq (same _ (by omega) (low _ (by omega))),
  x, blk_keep hx1 (same _ (by omega) (low _ (by omega))), hx2.keep (fun q hq => (hs.block q hq).imp id (·.2)), hx3⟩
theorem ir_eq {W0 W : World} {S b5 : Nat} {ki Qi wi : Int} {k Q w m j j' : Nat} {O : List Nat} (e : restP k Q w j = restP k Q w j') (h : IR W0 S b5 ki Qi wi k Q w m j O W) : IR W0 S b5 ki Qi wi k Q w m j' O W :=
 ⟨h.bel, h.big, h.own, h.top, h.kt, h.kw, h.res, h.kq, by rw [← e]; exact h.pt⟩
theorem ir_turn {W0 W w' : World} {S b5 : Nat} {ki Qi wi : Int} {k Q w m j j' : Nat} {O : List Nat} (h0 : W0.heap.size ≤ S) (h1 : S + 3 ≤ b5) (h : IR W0 S b5 ki Qi wi k Q w m j O W) (hok : OkP (restP k Q w j)) (hb : Bel W w') {x' : Pc} (M : x'.Dv w') (hp : x'.p = restP k Q w j')
  {v0 v1 v2 v3 v4 v5 v6 v7 v8 v9 va vb : Value} (hc : x'.cells = [v0, v1, v2, v3, v4, v5, v6, v7, v8, v9, va, vb]) :
  IR W0 S b5 ki Qi wi k Q w m j' O (set12 w' b5 v0 v1 v2 v3 v4 v5 v6 v7 v8 v9 va vb) ∧ Yd [b5, b5 + 1] O (b5 + 5) W (set12 w' b5 v0 v1 v2 v3 v4 v5 v6 v7 v8 v9 va vb) := by
 obtain ⟨x, hx1, hx2, hx3⟩ := h.pt
 rw [← hx3] at hok
 have hN := ni_pc hx1 hok
 have hN' := ni_pc (hx1.bel hb) hok
 obtain ⟨u0, u1, u2, u3, u4, u5, u6, u7, u8, u9, ua, ub, hx⟩ : ∃ u0 u1 u2 u3 u4 u5 u6 u7 u8 u9 ua ub, x.cells = [u0, u1, u2, u3, u4, u5, u6, u7, u8, u9, ua, ub] := ⟨_, _, _, _, _, _, _, _, _, _, _, _, rfl⟩
 have KZ := hx1.bel hb
 rw [hx] at KZ
 have KF := blk_set12 KZ v0 v1 v2 v3 v4 v5 v6 v7 v8 v9 va vb
 rw [← hc] at KF
 have hoth : ∀ q, q ≠ b5 → (set12 w' b5 v0 v1 v2 v3 v4 v5 v6 v7 v8 v9 va vb).heap[q]? = w'.heap[q]? := fun q hne => set12_other hne _ _ _ _ _ _ _ _ _ _ _ _
 have hsz : (set12 w' b5 v0 v1 v2 v3 v4 v5 v6 v7 v8 v9 va vb).heap.size = w'.heap.size := set12_size _ _ _ _ _ _ _ _ _ _ _ _
 obtain ⟨e1, e2, e3⟩ := set12_fr w' b5 v0 v1 v2 v3 v4 v5 v6 v7 v8 v9 va vb
 obtain ⟨wf, hwf⟩ : ∃ wf, set12 w' b5 v0 v1 v2 v3 v4 v5 v6 v7 v8 v9 va vb = wf := ⟨_, rfl⟩
 rw [hwf] at KF hoth hsz e1 e2 e3 ⊢
 have DF : x'.Dv wf := M.keep fun q hq => by
  by_cases e : q = b5
  ·subst e; exact .inr hN'
  ·exact .inl (hoth q e)
 have hbig := h.big
 have hws := h.bel.size
 have same : ∀ q, q < W.heap.size → q ≠ b5 → wf.heap[q]? = W.heap[q]? := fun q hq hne => (hoth q hne).trans (hb.out.block q hq)
 have sz : W.heap.size ≤ wf.heap.size := by rw [hsz]; exact hb.size
 refine ⟨⟨⟨⟨e1.trans (hb.out.os.trans h.bel.out.os), e2.trans (hb.out.tape.trans h.bel.out.tape), e3.trans (hb.out.output.trans h.bel.out.output), by omega, fun q hq => (same q (by omega) (by omega)).trans (h.bel.out.block q hq)⟩⟩, by omega, h.own, fun q hq => Nat.lt_of_lt_of_le (h.top q hq) sz,
  blk_keep h.kt (same _ h.kt.lt (by omega)), blk_keep h.kw (same _ h.kw.lt (by omega)), blk_keep h.res (same _ h.res.lt (by omega)), blk_keep h.kq (same _ h.kq.lt (by omega)), x', KF, DF, hp⟩,
  ⟨e1.trans hb.out.os, e2.trans hb.out.tape, e3.trans hb.out.output, sz, fun q hq => ?_⟩⟩
 by_cases e : q = b5
 ·subst e; exact .inr ⟨.inl hN, fun z => by have := h.own _ z; omega, .inl (by simp)⟩
 ·exact .inl (same q hq e)
structure KyP (p : Pt) : Prop where
 cl : KyV p.1.1
 ch : KyV p.1.2
 sl : KyV p.2.1
 sh : KyV p.2.2
theorem one_ky : KyV (2 ^ K) := by
 right
 have e := one_e
 have : (E3.mk false 1 0).nf = true := by decide
 have h := (nf_parts this).2.1
 rw [e] at h; exact h
theorem rest_ky {k Q w n : Nat} (h : ∀ j, j < n → k / 2 ^ (Q - (3 + j)) % 2 = 1 → LgP (restP k Q w (j + 1))) : ∀ j, j ≤ n → KyP (restP k Q w j)
 | 0, _ => ⟨one_ky, one_ky, .inl (.inl rfl), .inl (.inl rfl)⟩
 | j + 1, hj => by
  by_cases hb : k / 2 ^ (Q - (3 + j)) % 2 = 1
  ·have l := h j (by omega) hb
   exact ⟨.inl l.cl, .inl l.ch, .inl l.sl, .inl l.sh⟩
  ·have e : restP k Q w (j + 1) = restP k Q w j := by
    show (if k / 2 ^ (Q - (3 + j)) % 2 = 1 then turned (restP k Q w j) (halvesP w j) w else restP k Q w j) = _
    rw [if_neg hb]
   rw [e]; exact rest_ky h j (by omega)
theorem ir_next {W0 W : World} {S b5 : Nat} {ki Qi wi z : Int} {k Q w m j : Nat} {O : List Nat} (h0 : W0.heap.size ≤ S) (h1 : S + 3 ≤ b5) (h : IR W0 S b5 ki Qi wi k Q w m j O W) (hky : KyP (restP k Q w j)) (hz : z = ((3 + (m + 1) : Nat) : Int)) :
  IR W0 S b5 ki Qi wi k Q w (m + 1) j O (W.setCell ⟨b5 + 1, 0, none⟩ (.int .i64 z)) ∧ Yd [b5, b5 + 1] O (b5 + 5) W (W.setCell ⟨b5 + 1, 0, none⟩ (.int .i64 z)) := by
 subst hz
 obtain ⟨x, hx1, hx2, hx3⟩ := h.pt
 have KF := h.kq.set 0 (.int .i64 ((3 + (m + 1) : Nat) : Int))
 have hoth : ∀ q, q ≠ b5 + 1 → (W.setCell ⟨b5 + 1, 0, none⟩ (.int .i64 ((3 + (m + 1) : Nat) : Int))).heap[q]? = W.heap[q]? := fun q hne => Below.heap_setCell _ _ _ _ (by first | exact hne | exact Ne.symm hne)
 have hsz : (W.setCell ⟨b5 + 1, 0, none⟩ (.int .i64 ((3 + (m + 1) : Nat) : Int))).heap.size = W.heap.size := by simp [World.setCell]
 obtain ⟨wf, hwf⟩ : ∃ wf, W.setCell ⟨b5 + 1, 0, none⟩ (.int .i64 ((3 + (m + 1) : Nat) : Int)) = wf := ⟨_, rfl⟩
 have e1 : wf.os = W.os := by rw [← hwf]; rfl
 have e2 : wf.tape = W.tape := by rw [← hwf]; rfl
 have e3 : wf.output = W.output := by rw [← hwf]; rfl
 rw [hwf] at KF hoth hsz ⊢
 have hne1 : (((3 + m : Nat) : Int)) ≠ 1 := by omega
 have hs : ∀ q, q < W.heap.size → q ≠ b5 + 1 → wf.heap[q]? = W.heap[q]? := fun q _ hne => hoth q hne
 rw [← hx3] at hky
 have DF : x.Dv wf := ⟨dv_keepQ hx2.k1 hky.cl h.kq hne1 hs, dv_keepQ hx2.k2 hky.ch h.kq hne1 hs, dv_keepQ hx2.k3 hky.sl h.kq hne1 hs, dv_keepQ hx2.k4 hky.sh h.kq hne1 hs⟩
 have hbig := h.big
 have hws := h.bel.size
 refine ⟨⟨⟨⟨e1.trans h.bel.out.os, e2.trans h.bel.out.tape, e3.trans h.bel.out.output, by omega, fun q hq => (hoth q (by omega)).trans (h.bel.out.block q hq)⟩⟩, by omega, h.own, fun q hq => by have := h.top q hq; omega,
  blk_keep h.kt (hoth _ (by omega)), blk_keep h.kw (hoth _ (by omega)), blk_keep h.res (hoth _ (by omega)), KF, x, blk_keep hx1 (hoth _ (by omega)), DF, hx3⟩, ⟨e1, e2, e3, by omega, fun q hq => ?_⟩⟩
 by_cases e : q = b5 + 1
 ·subst e; exact .inr ⟨.inr (oneInt_blk h.kq), fun z => by have := h.own _ z; omega, .inl (by simp)⟩
 ·exact .inl (hoth q e)
structure RestOk (k Q w : Nat) : Prop where
 hp : ∀ j, j < Q - 2 + 1 → HvP w j
 rp : ∀ j, j ≤ Q - 2 → OkP (restP k Q w j)
 rg : ∀ j, j < Q - 2 → k / 2 ^ (Q - (3 + j)) % 2 = 1 → LgP (restP k Q w (j + 1))
theorem rest_ok {Q k cw sw : Nat} (h : Entry Q k cw sw) : RestOk k Q (150 + 2 * Q) := ⟨h.hp, h.rp, h.rg⟩
theorem one_sgn : 0 ≤ sgn (ishift T0.one (-1)).1 := by
 have e : ishift T0.one (-1) = vi (xshift xone (-1)) := by rw [xshift_v, xone_v]
 rw [e]
 exact sg_v (by decide +kernel)
theorem dRest {k Q w : Nat} {ki Qi wi : Int} (W0 : World) (T : Tab W0) (hk : (k : Int) = ki) (hQ : (Q : Int) = Qi) (hw : w ≤ 3000) (hwi : (w : Int) = wi) (hQ9 : Q ≤ 9) (hk9 : k < 64) (EN : RestOk k Q w) (hQ3 : Q = 0 ∨ 3 ≤ Q) :
  Calls Tryz.prog 178 #[.agg #[.int .i64 ki, .int .i64 Qi], .int .i64 wi] W0 (MakesP W0 (restP k Q w (Q - 2)) 400 3) := by
 have TT := Ho.mk T
 have HE := Ho.mk EN
 have HQ3 := Ho.mk hQ3
 have HW := Ho.mk hw
 clear T EN hQ3 hw
 refine (callsIn_wide (n := 3)).1 ?_
 refine callsIn_of_wp_marks Tryz.func178 rfl trivial ?_ rfl
 simp only [Tryz.ntmps178, List.size_toArray, List.length_cons, List.length_nil, Nat.reduceAdd, Nat.reduceSub, Array.replicate_succ, Array.replicate_zero, List.push_toArray, List.append_toArray, List.nil_append, List.cons_append]
 gi_wp2_with fail
 have KT := Ho.mk (((Blk.new W0 [.int .i64 ki, .int .i64 Qi] 95).old (.cells #[.int .i64 wi] 3)).old (.cells #[.bool false, .slice none 0 0, .int .i64 0, .bool false, .slice none 0 0, .int .i64 0, .bool false, .slice none 0 0, .int .i64 0, .bool false, .slice none 0 0, .int .i64 0] 219))
 have KW := Ho.mk ((Blk.new (W0.alloc (.cells #[.int .i64 ki, .int .i64 Qi] 95)) [.int .i64 wi] 3).old (.cells #[.bool false, .slice none 0 0, .int .i64 0, .bool false, .slice none 0 0, .int .i64 0, .bool false, .slice none 0 0, .int .i64 0, .bool false, .slice none 0 0, .int .i64 0] 219))
 rw [World.size_alloc] at KW
 have KR := Ho.mk (Blk.new ((W0.alloc (.cells #[.int .i64 ki, .int .i64 Qi] 95)).alloc (.cells #[.int .i64 wi] 3)) [.bool false, .slice none 0 0, .int .i64 0, .bool false, .slice none 0 0, .int .i64 0, .bool false, .slice none 0 0, .int .i64 0, .bool false, .slice none 0 0, .int .i64 0] 219)
 rw [World.size_alloc, World.size_alloc] at KR
 have g0 := Ho.mk ((((Bel.refl W0).alloc (.cells #[.int .i64 ki, .int .i64 Qi] 95)).alloc (.cells #[.int .i64 wi] 3)).alloc (.cells #[.bool false, .slice none 0 0, .int .i64 0, .bool false, .slice none 0 0, .int .i64 0, .bool false, .slice none 0 0, .int .i64 0, .bool false, .slice none 0 0, .int .i64 0] 219))
 have hS : (((W0.alloc (.cells #[.int .i64 ki, .int .i64 Qi] 95)).alloc (.cells #[.int .i64 wi] 3)).alloc (.cells #[.bool false, .slice none 0 0, .int .i64 0, .bool false, .slice none 0 0, .int .i64 0, .bool false, .slice none 0 0, .int .i64 0, .bool false, .slice none 0 0, .int .i64 0] 219)).heap.size = W0.heap.size + 1 + 1 + 1 := by simp only [World.size_alloc]
 generalize (((W0.alloc (.cells #[.int .i64 ki, .int .i64 Qi] 95)).alloc (.cells #[.int .i64 wi] 3)).alloc (.cells #[.bool false, .slice none 0 0, .int .i64 0, .bool false, .slice none 0 0, .int .i64 0, .bool false, .slice none 0 0, .int .i64 0, .bool false, .slice none 0 0, .int .i64 0] 219)) = W at *
 refine ⟨trivial, (callsIn_wide.2 (dOne _ (TT.out.bel g0.out))).mono ?_⟩
 rintro e w1 ⟨A1, c1, B1, d1, rfl, n1, m1, b1⟩
 have b1w : W.heap.size ≤ w1.heap.size := b1.size
 have y0 := fun o o' => (KW.out.bel ((b1.alloc o).alloc o')).cell (i := 0) rfl
 gi_wp2_with fail
 clear y0
 refine ⟨trivial, (callsIn_wide.2 (dHalves _)).mono ?_⟩
 rintro e w5 ⟨rfl, hw5⟩
 simp only [World.size_alloc] at *
 have HB : Ho (Bel W0 w5) := ⟨by rw [hw5]; exact g0.out.trans (((b1.alloc _).alloc _).alloc _)⟩
 have HSz : Ho (w5.heap.size = w1.heap.size + 3) := ⟨by rw [hw5]; simp only [World.size_alloc]⟩
 have BX : Ho (Bel W w5) := ⟨by rw [hw5]; exact ((b1.alloc _).alloc _).alloc _⟩
 have BW1 : Ho (Bel w1 w5) := ⟨by rw [hw5]; exact (((Bel.refl w1).alloc _).alloc _).alloc _⟩
 have KP : Ho (Blk w5 w1.heap.size 219 [.bool (dneg T0.one.1), .slice A1 (digs (dm T0.one.1)).length c1, .int .i64 (de T0.one.1), .bool (dneg T0.one.2), .slice B1 (digs (dm T0.one.2)).length d1, .int .i64 (de T0.one.2), .bool false, .slice none 0 0, .int .i64 0, .bool false, .slice none 0 0, .int .i64 0]) := ⟨by
  rw [hw5]; exact ((Blk.new w1 [.bool (dneg T0.one.1), .slice A1 (digs (dm T0.one.1)).length c1, .int .i64 (de T0.one.1), .bool (dneg T0.one.2), .slice B1 (digs (dm T0.one.2)).length d1, .int .i64 (de T0.one.2), .bool false, .slice none 0 0, .int .i64 0, .bool false, .slice none 0 0, .int .i64 0] 219).old _).old _⟩
 have KQ : Ho (Blk w5 (w1.heap.size + 1) 3 [.int .i64 3]) := ⟨by
  rw [hw5]
  have h := (Blk.new (w1.alloc (.cells #[.bool (dneg T0.one.1), .slice A1 (digs (dm T0.one.1)).length c1, .int .i64 (de T0.one.1), .bool (dneg T0.one.2), .slice B1 (digs (dm T0.one.2)).length d1, .int .i64 (de T0.one.2), .bool false, .slice none 0 0, .int .i64 0, .bool false, .slice none 0 0, .int .i64 0] 219)) [.int .i64 3] 3).old (.cells #[.int .i64 wi] 3)
  simpa only [World.size_alloc] using h⟩
 have KV : Ho (Blk w5 (w1.heap.size + 1 + 1) 3 [.int .i64 wi]) := ⟨by
  rw [hw5]
  have h := Blk.new ((w1.alloc (.cells #[.bool (dneg T0.one.1), .slice A1 (digs (dm T0.one.1)).length c1, .int .i64 (de T0.one.1), .bool (dneg T0.one.2), .slice B1 (digs (dm T0.one.2)).length d1, .int .i64 (de T0.one.2), .bool false, .slice none 0 0, .int .i64 0, .bool false, .slice none 0 0, .int .i64 0] 219)).alloc (.cells #[.int .i64 3] 3)) [.int .i64 wi] 3
  simpa only [World.size_alloc] using h⟩
 have KT := Ho.mk (KT.out.bel BX.out)
 have KW := Ho.mk (KW.out.bel BX.out)
 have KR := Ho.mk (KR.out.bel BX.out)
 have N1 := Ho.mk (n1.bel BW1.out)
 have M1 := Ho.mk (m1.bel BW1.out)
 clear hw5 b1 n1 m1 g0 BX BW1
 have hb0 : W0.heap.size + 3 ≤ w1.heap.size := by omega
 clear hS b1w
 generalize w1.heap.size = b5 at *
 gi_wp2_with fail
 obtain ⟨V8, hV8⟩ : ∃ V8, V8 = Value.agg #[.bool (dneg T0.one.1), .slice A1 (digs (dm T0.one.1)).length c1, .int .i64 (de T0.one.1), .bool (dneg T0.one.2), .slice B1 (digs (dm T0.one.2)).length d1, .int .i64 (de T0.one.2)] := ⟨_, rfl⟩
 obtain ⟨V9, hV9⟩ : ∃ V9, V9 = Value.agg #[.bool (dneg T0.one.1), .slice A1 (digs (dm T0.one.1)).length c1, .int .i64 (de T0.one.1), .bool (dneg T0.one.2), .slice B1 (digs (dm T0.one.2)).length d1, .int .i64 (de T0.one.2), .bool false, .slice none 0 0, .int .i64 0, .bool false, .slice none 0 0, .int .i64 0] := ⟨_, rfl⟩
 rw [← hV8, ← hV9]
 have HN : Q - 2 ≤ 7 := by omega
 have hI0 : IR W0 W0.heap.size b5 ki Qi wi k Q w 0 0 [] w5 := ⟨HB.out, by have := HSz.out; omega, by simp, by simp, KT.out, KW.out, KR.out, KQ.out,
  ⟨A1, c1, B1, d1, none, 0, none, 0, (T0.one, (0, 0))⟩, by have h := KP.out; simpa [Pc.cells, show dm 0 = 0 from odd_zero, digs_zero, de_zero, show dneg 0 = false from rfl] using h, ⟨I0.Dv.wid N1.out (HE.out.rp 0 (Nat.zero_le _)).cl.wd, I0.Dv.wid M1.out (HE.out.rp 0 (Nat.zero_le _)).ch.wd, (Dv.zero _ 0).mono (by omega) (by omega), (Dv.zero _ 0).mono (by omega) (by omega)⟩, rfl⟩
 have HI0 := Ho.mk hI0
 clear hV8 hV9 hI0 KT KW KR KQ KP N1 M1
 have hb2 : 1 < W0.heap.size := I4.Tab.lt TT.out
 refine rangeB (α := Pc) (encs := Pc.enc) (bs := [b5, b5 + 1]) (N := Q - 2 + 1) (Px := fun pre x W1 => x.p = halvesP w pre.length ∧ x.Dv W1) (S := fun _ => False) (Sp := fun _ => True) (Bd := True)
  (by omega) rfl (fun args w => by rfl) (fun x => by rfl) (by intro q hq; have := HSz.out; simp at hq; omega) ?_
  (fun pre O W => IR W0 W0.heap.size b5 ki Qi wi k Q w pre.length pre.length O W ∧ pre.length ≤ Q - 2)
  (fun c pre O W => c = .exit 0 ∧ IR W0 W0.heap.size b5 ki Qi wi k Q w (Q - 2) (Q - 2) O W)
  (fun _ pre O W h => by have := h.2; omega)
  (fun s O A O' B h hs h1 h2 => ⟨ir_abides (Nat.le_refl _) hb0 O A O' B h.1 hs h1 h2, h.2⟩)
  (fun c s O A O' B h hs h1 h2 => ⟨h.1, ir_abides (Nat.le_refl _) hb0 O A O' B h.2 hs h1 h2⟩)
  ⟨HI0.out, Nat.zero_le _⟩
  (fun pre x a' W => ∃ kb, a' = { tmps := #[.agg #[.int .i64 ki, .int .i64 Qi], .int .i64 wi, .pointer (some ⟨W0.heap.size, 0, none⟩), .pointer (some ⟨W0.heap.size + 1, 0, none⟩), .pointer (some ⟨W0.heap.size + 1 + 1, 0, none⟩), .pointer (some ⟨b5, 0, none⟩), .pointer (some ⟨b5 + 1, 0, none⟩), .pointer (some ⟨kb, 0, none⟩), V8, V9, .int .i64 wi,
   .func (.func 209) #[] #[.pointer (some ⟨b5 + 1 + 1, 0, none⟩)], .agg #[.bool (dneg x.p.1.1), .slice x.A (digs (dm x.p.1.1)).length x.a, .int .i64 (de x.p.1.1), .bool (dneg x.p.1.2), .slice x.B (digs (dm x.p.1.2)).length x.b, .int .i64 (de x.p.1.2), .bool (dneg x.p.2.1), .slice x.C (digs (dm x.p.2.1)).length x.c, .int .i64 (de x.p.2.1), .bool (dneg x.p.2.2), .slice x.D (digs (dm x.p.2.2)).length x.d, .int .i64 (de x.p.2.2)], undef, undef, undef, undef, undef, undef, undef, undef, undef, undef, undef, undef, undef, undef, undef, undef, undef, undef, undef, undef], defers := [] } ∧ Blk W kb 219 x.cells ∧ x.p = halvesP w pre.length ∧ x.Dv W)
  ?_ ?_ ?_ ?_ ?_
 ·-- the iterator's promise
  intro W' hW hBW
  have hs := HSz.out
  have BW := HB.out.trans hBW
  have hq1 : b5 + 1 + 1 ∉ [b5, b5 + 1] ++ [w5.heap.size + 1] := by rw [hs]; simp; omega
  have hq2 : 1 ∉ [b5, b5 + 1] ++ [w5.heap.size + 1] := by rw [hs]; simp; omega
  exact halves1 2 _ (by omega) W' (TT.out.bel BW) (KV.out.bel hBW) HW.out hwi hq1 hq2 (by omega) HE.out.hp one_sgn
 ·-- the loop's record
  rintro pre x a' A r o hr ⟨kb, h1, h2, h3, h4⟩
  refine ⟨kb, h1, blk_keep h2 (World.putObj_heap_other ?_), h3, h4.keep fun i hi => ?_⟩
  ·rintro rfl
   have := h2.out
   rw [hr] at this; simp at this
  ·by_cases e : i = w5.heap.size + 1
   ·subst e; exact .inr (ni_loop hr)
   ·exact .inl (World.putObj_heap_other e)
 ·-- the loop's variable
  rintro l pre O x W K ⟨hI, _⟩ hsz ⟨hx1, hx2⟩ hK
  have HX := Ho.mk hx1
  clear hx1
  simp [Pc.enc]
  gi_wp2
  exact hK _ _ ((Bel.refl W).alloc _) ⟨W.heap.size, rfl, Blk.new W [.bool (dneg x.p.1.1), .slice x.A (digs (dm x.p.1.1)).length x.a, .int .i64 (de x.p.1.1), .bool (dneg x.p.1.2), .slice x.B (digs (dm x.p.1.2)).length x.b, .int .i64 (de x.p.1.2), .bool (dneg x.p.2.1), .slice x.C (digs (dm x.p.2.1)).length x.c, .int .i64 (de x.p.2.1), .bool (dneg x.p.2.2), .slice x.D (digs (dm x.p.2.2)).length x.d, .int .i64 (de x.p.2.2)] 219, HX.out, hx2.bel ((Bel.refl W).alloc _)⟩
 ·-- a round
  rintro l pre O x a' W ⟨hI, hl⟩ hlen hsz ⟨kb, rfl, hkb, hx1, hx2⟩ hO hlO
  have HX := Ho.mk hx1
  have HI := Ho.mk hI
  have H2 := Ho.mk hx2
  have HL := Ho.mk hl
  have hkb' := hkb
  unfold Pc.cells at hkb'
  clear hx1 hx2 hl
  have q0 := hI.kq.cell (i := 0) rfl
  obtain ⟨t0, t1⟩ := hI.kt.c2
  have w0 := hI.kw.cell (i := 0) rfl
  clear hI hkb
  obtain ⟨zi, hzi⟩ : ∃ zi : Int, zi = ((3 + pre.length : Nat) : Int) := ⟨_, rfl⟩
  rw [← hzi] at q0
  have hz0 : 3 ≤ zi := by omega
  have hz1 : zi ≤ 10 := by have := HL.out; omega
  have HZ := Ho.mk hzi
  clear hzi
  by_cases hq : Qi < zi
  ·have hqq : (pre.length : Nat) = Q - 2 := by have := HL.out; have := HZ.out; omega
   have HQQ := Ho.mk hqq
   clear hqq hkb'
   gi_wp2
   refine ⟨Yd.of_bel (Bel.refl _) _ _ _, rfl, ?_⟩
   rw [← HQQ.out]; exact HI.out
  ·have hQ2 : zi ≤ Qi := by omega
   have hqlt : pre.length < Q - 2 := by have := HZ.out; omega
   have HQL := Ho.mk hqlt
   have hsh : ki / 2 ^ (Qi - zi).toNat = ((k / 2 ^ (Q - (3 + pre.length)) : Nat) : Int) := by
    have h1 := HZ.out
    rw [← hk, show (Qi - zi).toNat = Q - (3 + pre.length) by omega]; simp
   have hbit : bits .and .i64 (ki / 2 ^ (Qi - zi).toNat) 1 = ((k / 2 ^ (Q - (3 + pre.length)) % 2 : Nat) : Int) := by
    rw [hsh]
    exact U1.and_one _ (Nat.lt_of_le_of_lt (Nat.div_le_self _ _) (by omega))
   clear hsh hqlt
   by_cases hb : k / 2 ^ (Q - (3 + pre.length)) % 2 = 1
   ·rw [hb] at hbit
    obtain ⟨y, hy1, hy2, hy3⟩ := HI.out.pt
    have HY1 := Ho.mk hy1
    have HY2 := Ho.mk hy2
    have HY3 := Ho.mk hy3
    have hy1' := hy1
    unfold Pc.cells at hy1'
    clear hy1 hy2 hy3
    have y0 := hy1'.cell (i := 0) rfl
    have x0 := hkb'.cell (i := 0) rfl
    have y1 := hy1'.cell (i := 1) rfl
    have x1 := hkb'.cell (i := 1) rfl
    have y2 := hy1'.cell (i := 2) rfl
    have x2 := hkb'.cell (i := 2) rfl
    have y3 := hy1'.cell (i := 3) rfl
    have x3 := hkb'.cell (i := 3) rfl
    have y4 := hy1'.cell (i := 4) rfl
    have x4 := hkb'.cell (i := 4) rfl
    have y5 := hy1'.cell (i := 5) rfl
    have x5 := hkb'.cell (i := 5) rfl
    have y6 := hy1'.cell (i := 6) rfl
    have x6 := hkb'.cell (i := 6) rfl
    have y7 := hy1'.cell (i := 7) rfl
    have x7 := hkb'.cell (i := 7) rfl
    have y8 := hy1'.cell (i := 8) rfl
    have x8 := hkb'.cell (i := 8) rfl
    have y9 := hy1'.cell (i := 9) rfl
    have x9 := hkb'.cell (i := 9) rfl
    have y10 := hy1'.cell (i := 10) rfl
    have x10 := hkb'.cell (i := 10) rfl
    have y11 := hy1'.cell (i := 11) rfl
    have x11 := hkb'.cell (i := 11) rfl
    have HT2 := TT.out.bel HI.out.bel
    have OKx := (HE.out.hp pre.length (by omega)).ok
    have OKy := HE.out.rp pre.length (by omega)
    have hr1 : turned (restP k Q w pre.length) (halvesP w pre.length) w = restP k Q w (pre.length + 1) := by
     show _ = (if k / 2 ^ (Q - (3 + pre.length)) % 2 = 1 then turned (restP k Q w pre.length) (halvesP w pre.length) w else restP k Q w pre.length)
     rw [if_pos hb]
    have OKt := HE.out.rp (pre.length + 1) (by have := HQL.out; omega)
    rw [← hr1, ← HX.out, ← HY3.out] at OKt
    rw [← HY3.out] at OKy
    rw [← HX.out] at OKx
    have HTU := Ho.mk (dTurned (n := w) (nn := wi) W HT2 HY2.out.k1 HY2.out.k2 HY2.out.k3 HY2.out.k4 H2.out.k1 H2.out.k2 H2.out.k3 H2.out.k4 HW.out hwi OKy OKx OKt)
    have HOK := Ho.mk (HY3.out ▸ OKy)
    have HR1 := Ho.mk hr1
    have HYO := Ho.mk OKy
    have HB1 := Ho.mk hb
    have HKY := Ho.mk (rest_ky (w := w) (fun j hj hb => HE.out.rg j hj hb))
    clear HT2 OKx OKy OKt hr1 hb hkb' hy1'
    gi_wp2_with fail
    refine ⟨trivial, ((callsIn_wide.2 HTU.out).inRound l).mono ?_⟩
    rintro e w7 ⟨A7, a7, B7, b7, C7, c7, D7, d7, rfl, n1, n2, n3, n4, b8⟩
    clear x0 x1 x2 x3 x4 x5 x6 x7 x8 x9 x10 x11 y0 y1 y2 y3 y4 y5 y6 y7 y8 y9 y10 y11
    have hy7 := HY1.out.bel b8
    unfold Pc.cells at hy7
    have y0 := hy7.cell (i := 0) rfl
    have z0 := hy7.free 0
    have y1 := hy7.cell (i := 1) rfl
    have z1 := hy7.free 1
    have y2 := hy7.cell (i := 2) rfl
    have z2 := hy7.free 2
    have y3 := hy7.cell (i := 3) rfl
    have z3 := hy7.free 3
    have y4 := hy7.cell (i := 4) rfl
    have z4 := hy7.free 4
    have y5 := hy7.cell (i := 5) rfl
    have z5 := hy7.free 5
    have y6 := hy7.cell (i := 6) rfl
    have z6 := hy7.free 6
    have y7 := hy7.cell (i := 7) rfl
    have z7 := hy7.free 7
    have y8 := hy7.cell (i := 8) rfl
    have z8 := hy7.free 8
    have y9 := hy7.cell (i := 9) rfl
    have z9 := hy7.free 9
    have y10 := hy7.cell (i := 10) rfl
    have z10 := hy7.free 10
    have y11 := hy7.cell (i := 11) rfl
    have z11 := hy7.free 11
    have HM0 := Ho.mk hbit
    have HM1 := Ho.mk hb0
    have HM2 := Ho.mk hz0
    have HM3 := Ho.mk hz1
    clear hbit hq hQ2 hlen hsz hlO hb2 HN t0 t1 w0 hb0 hz0 hz1 q0
    dsimp only
    go_at_K
    iterate 5 (first | gi_guarded | gi_step | gi_upon)
    clear y0 y1 y2 y3 y4 y5 y6 y7 y8 y9 y10 y11 z0 z1 z2 z3 z4 z5 z6 z7 z8 z9 z10 z11 hy7
    obtain ⟨i1, j1⟩ := ir_turn (x' := ⟨A7, a7, B7, b7, C7, c7, D7, d7, turned y.p x.p w⟩) (j' := pre.length + 1) (Nat.le_refl _) HM1.out HI.out HOK.out b8 ⟨n1, n2, n3, n4⟩ (by show turned y.p x.p w = _; rw [HY3.out, HX.out]; exact HR1.out) rfl
    obtain ⟨wf, hwf⟩ : ∃ wf, set12 w7 b5 (.bool (dneg (turned y.p x.p w).1.1)) (.slice A7 (digs (dm (turned y.p x.p w).1.1)).length a7) (.int .i64 (de (turned y.p x.p w).1.1)) (.bool (dneg (turned y.p x.p w).1.2)) (.slice B7 (digs (dm (turned y.p x.p w).1.2)).length b7) (.int .i64 (de (turned y.p x.p w).1.2)) (.bool (dneg (turned y.p x.p w).2.1)) (.slice C7 (digs (dm (turned y.p x.p w).2.1)).length c7) (.int .i64 (de (turned y.p x.p w).2.1)) (.bool (dneg (turned y.p x.p w).2.2)) (.slice D7 (digs (dm (turned y.p x.p w).2.2)).length d7) (.int .i64 (de (turned y.p x.p w).2.2)) = wf := ⟨_, rfl⟩
    rw [hwf] at i1 j1
    unfold set12 at hwf
    rw [hwf]
    have q1 := i1.kq.cell (i := 0) rfl
    have z1 := i1.kq.free 0
    rw [← HZ.out] at q1
    have HI1 := Ho.mk i1
    have HJ1 := Ho.mk j1
    have hz0 := HM2.out
    have hz1 := HM3.out
    clear hwf i1 j1 n1 n2 n3 n4 b8
    gi_wp2
    --@@
    obtain ⟨i2, j2⟩ := ir_next (Nat.le_refl _) HM1.out HI1.out (HKY.out (pre.length + 1) (by have := HQL.out; omega)) (z := zi + 1) (by have := HZ.out; omega)
    refine ⟨?_, ?_, ?_⟩
    ·rw [HSz.out]; exact HJ1.out.trans j2
    ·rw [List.length_append, List.length_singleton]; exact i2
    ·rw [List.length_append, List.length_singleton]; have := HQL.out; omega
   ·have hbz : k / 2 ^ (Q - (3 + pre.length)) % 2 = 0 := by omega
    rw [hbz] at hbit
    clear hb hkb'
    have z0 := HI.out.kq.free 0
    have HBZ := Ho.mk hbz
    have HKY := Ho.mk (rest_ky (w := w) (fun j hj hb => HE.out.rg j hj hb))
    clear hbz
    gi_wp2
    have hr0 : restP k Q w (pre.length + 1) = restP k Q w pre.length := by
     show (if k / 2 ^ (Q - (3 + pre.length)) % 2 = 1 then turned (restP k Q w pre.length) (halvesP w pre.length) w else restP k Q w pre.length) = _
     rw [if_neg (by rw [HBZ.out]; decide)]
    obtain ⟨i1, i2⟩ := ir_next (Nat.le_refl _) hb0 HI.out (HKY.out pre.length (by have := HQL.out; omega)) (z := zi + 1) (by have := HZ.out; omega)
    refine ⟨?_, ?_, ?_⟩
    ·rw [HSz.out]; exact i2
    ·rw [List.length_append, List.length_singleton]; exact ir_eq hr0.symm i1
    ·rw [List.length_append, List.length_singleton]; have := HQL.out; omega
 ·-- never done
  intro ys O W _ h; exact h.elim
 ·-- broken off
  rintro c pre O W hsz _ ⟨rfl, hI⟩ hd
  obtain ⟨y, hy1, hy2, hy3⟩ := hI.pt
  have hy1' := hy1
  unfold Pc.cells at hy1'
  obtain ⟨y0, y1, y2, y3, y4, y5, y6, y7, y8, y9, y10, y11⟩ := hy1'.c12
  have x0 := hI.res.cell (i := 0) rfl
  have z0 := hI.res.free 0
  have x1 := hI.res.cell (i := 1) rfl
  have z1 := hI.res.free 1
  have x2 := hI.res.cell (i := 2) rfl
  have z2 := hI.res.free 2
  have x3 := hI.res.cell (i := 3) rfl
  have z3 := hI.res.free 3
  have x4 := hI.res.cell (i := 4) rfl
  have z4 := hI.res.free 4
  have x5 := hI.res.cell (i := 5) rfl
  have z5 := hI.res.free 5
  have x6 := hI.res.cell (i := 6) rfl
  have z6 := hI.res.free 6
  have x7 := hI.res.cell (i := 7) rfl
  have z7 := hI.res.free 7
  have x8 := hI.res.cell (i := 8) rfl
  have z8 := hI.res.free 8
  have x9 := hI.res.cell (i := 9) rfl
  have z9 := hI.res.free 9
  have x10 := hI.res.cell (i := 10) rfl
  have z10 := hI.res.free 10
  have x11 := hI.res.cell (i := 11) rfl
  have z11 := hI.res.free 11
  clear hy1'
  have HH := Ho.mk hI
  have H2 := Ho.mk hy2
  have H3 := Ho.mk hy3
  have HD := Ho.mk hd
  clear hI hy1 hy2 hy3 hd
  gi_wp2
  rw [← H3.out]
  exact leaveP (fn := Tryz.f178) (p := y.p) rfl rfl HH.out.bel (by omega) HH.out.res H2.out.k1 H2.out.k2 H2.out.k3 H2.out.k4 HD.out (by have := HSz.out; omega)
end C6
namespace U2
open Ieee Go Go.RowKit Go.Proofs.YtalbgklfhabnkaaGreatDoor Ow Pl Dp Dt F1 T0 I0 U0 U1
attribute [local go_sem ↓] Go.wp_at_zero Go.wp_at_succ
theorem run_index8 (cs : Array Value) (i : Nat) (hi : i < 8) (w : World) : (Instr.index 188 (.agg cs) (.int .i64 i)).run Tryz.prog w = .ok (.agg (cs.extract (i * 3) (i * 3 + 3))) w := by
 have hu : Tryz.prog.underlying 188 = some (.array 8 187) := by kernel_rfl
 have hu2 : Tryz.prog.underlying 187 = some (.array 3 4) := by kernel_rfl
 obtain ⟨i0, hi0⟩ := Option.isSome_iff_exists.1 (show (Tryz.prog.info? 187).isSome = true by kernel_rfl)
 have hc : Tryz.prog.cellsOf 187 = 3 := by kernel_rfl
 simp [Instr.index, asIntOf, run_underlying hu, run_underlying hu2, run_sizeOf w hi0, hc, part, isAgg, Sem.run_bind, Result.andThen, hi]
theorem dPlace {e : Nat} {ei : Int} (w : World) (he : e ≤ 7) (hei : (e : Int) = ei) : Calls Tryz.prog 106 #[.int .i64 ei] w
  (fun r w' => r = .returned (.tuple #[.bool (placeT e).1, .bool (placeT e).2.1, .bool (placeT e).2.2]) ∧ Bel w w') := by
 rcases (show (e = 0 ∧ ei = 0) ∨ (e = 1 ∧ ei = 1) ∨ (e = 2 ∧ ei = 2) ∨ (e = 3 ∧ ei = 3) ∨ (e = 4 ∧ ei = 4) ∨ (e = 5 ∧ ei = 5) ∨ (e = 6 ∧ ei = 6) ∨ (e = 7 ∧ ei = 7) by omega) with ⟨rfl, rfl⟩ | ⟨rfl, rfl⟩ | ⟨rfl, rfl⟩ | ⟨rfl, rfl⟩ | ⟨rfl, rfl⟩ | ⟨rfl, rfl⟩ | ⟨rfl, rfl⟩ | ⟨rfl, rfl⟩
 all_goals clear hei he
 ·have hix := fun cs w => run_index8 cs 0 (by decide) w
  simp only [Int.cast_ofNat_Int] at hix
  go_enter Tryz.func106, Tryz.ntmps106
  go_wp2_with (simp only [hix])
  go_quiet (fail)
  go_wp2
  exact bodyPost_ret (v := .tuple #[.bool (placeT 0).1, .bool (placeT 0).2.1, .bool (placeT 0).2.2]) (by simp [results, Tryz.f106, go_sem, placeT]) rfl ⟨rfl, ((Bel.refl w).alloc _).drewN _⟩
 ·have hix := fun cs w => run_index8 cs 1 (by decide) w
  simp only [Int.cast_ofNat_Int] at hix
  go_enter Tryz.func106, Tryz.ntmps106
  go_wp2_with (simp only [hix])
  go_quiet (fail)
  go_wp2
  exact bodyPost_ret (v := .tuple #[.bool (placeT 1).1, .bool (placeT 1).2.1, .bool (placeT 1).2.2]) (by simp [results, Tryz.f106, go_sem, placeT]) rfl ⟨rfl, ((Bel.refl w).alloc _).drewN _⟩
 ·have hix := fun cs w => run_index8 cs 2 (by decide) w
  simp only [Int.cast_ofNat_Int] at hix
  go_enter Tryz.func106, Tryz.ntmps106
  go_wp2_with (simp only [hix])
  go_quiet (fail)
  go_wp2
  exact bodyPost_ret (v := .tuple #[.bool (placeT 2).1, .bool (placeT 2).2.1, .bool (placeT 2).2.2]) (by simp [results, Tryz.f106, go_sem, placeT]) rfl ⟨rfl, ((Bel.refl w).alloc _).drewN _⟩
 ·have hix := fun cs w => run_index8 cs 3 (by decide) w
  simp only [Int.cast_ofNat_Int] at hix
  go_enter Tryz.func106, Tryz.ntmps106
  go_wp2_with (simp only [hix])
  go_quiet (fail)
  go_wp2
  exact bodyPost_ret (v := .tuple #[.bool (placeT 3).1, .bool (placeT 3).2.1, .bool (placeT 3).2.2]) (by simp [results, Tryz.f106, go_sem, placeT]) rfl ⟨rfl, ((Bel.refl w).alloc _).drewN _⟩
 ·have hix := fun cs w => run_index8 cs 4 (by decide) w
  simp only [Int.cast_ofNat_Int] at hix
  go_enter Tryz.func106, Tryz.ntmps106
  go_wp2_with (simp only [hix])
  go_quiet (fail)
  go_wp2
  exact bodyPost_ret (v := .tuple #[.bool (placeT 4).1, .bool (placeT 4).2.1, .bool (placeT 4).2.2]) (by simp [results, Tryz.f106, go_sem, placeT]) rfl ⟨rfl, ((Bel.refl w).alloc _).drewN _⟩
 ·have hix := fun cs w => run_index8 cs 5 (by decide) w
  simp only [Int.cast_ofNat_Int] at hix
  go_enter Tryz.func106, Tryz.ntmps106
  go_wp2_with (simp only [hix])
  go_quiet (fail)
  go_wp2
  exact bodyPost_ret (v := .tuple #[.bool (placeT 5).1, .bool (placeT 5).2.1, .bool (placeT 5).2.2]) (by simp [results, Tryz.f106, go_sem, placeT]) rfl ⟨rfl, ((Bel.refl w).alloc _).drewN _⟩
 ·have hix := fun cs w => run_index8 cs 6 (by decide) w
  simp only [Int.cast_ofNat_Int] at hix
  go_enter Tryz.func106, Tryz.ntmps106
  go_wp2_with (simp only [hix])
  go_quiet (fail)
  go_wp2
  exact bodyPost_ret (v := .tuple #[.bool (placeT 6).1, .bool (placeT 6).2.1, .bool (placeT 6).2.2]) (by simp [results, Tryz.f106, go_sem, placeT]) rfl ⟨rfl, ((Bel.refl w).alloc _).drewN _⟩
 ·have hix := fun cs w => run_index8 cs 7 (by decide) w
  simp only [Int.cast_ofNat_Int] at hix
  go_enter Tryz.func106, Tryz.ntmps106
  go_wp2_with (simp only [hix])
  go_quiet (fail)
  go_wp2
  exact bodyPost_ret (v := .tuple #[.bool (placeT 7).1, .bool (placeT 7).2.1, .bool (placeT 7).2.2]) (by simp [results, Tryz.f106, go_sem, placeT]) rfl ⟨rfl, ((Bel.refl w).alloc _).drewN _⟩
end U2
namespace C7
open Go Go.RowKit Go.Proofs Go.Proofs.YtalbgklfhabnkaaGreatDoor Ow Pl Dp Dt D3 F1 T0 I0 V1 T1 U0 U1
open C0 C5 C6
attribute [local go_sem ↓] Go.wp_at_zero Go.wp_at_succ
theorem of_0 {q w : Nat} {k ki qi wi : Int} {s : Nat × (Nat × Nat)} (W0 : World) (T : Tab W0) (hk : k = ki) (hq : (q : Int) = qi) (hq9 : q ≤ 9) (hs : splitT k q = s) (he : s.1 = 0) (hs9 : s.2.2 ≤ 9) (hk9 : s.2.1 < 64) (hs3 : s.2.2 = 0 ∨ 3 ≤ s.2.2) (hw : w ≤ 3000) (hwi : (w : Int) = wi) (EN : RestOk s.2.1 s.2.2 w) :
  Calls Tryz.prog 161 #[.agg #[.int .i64 ki, .int .i64 qi], .int .i64 wi] W0 (MakesP W0 (restP s.2.1 s.2.2 w (s.2.2 - 2)) 400 3) := by
 subst hk
 have SP := Ho.mk (fun w T => dSplit (k := k) w T hq hq9)
 rw [hs] at SP
 have RE := Ho.mk (fun W T => dRest (ki := (s.2.1 : Int)) (Qi := (s.2.2 : Int)) W T rfl rfl hw hwi hs9 hk9 EN hs3)
 have PL : Ho (∀ w, Calls Tryz.prog 106 #[.int .i64 0] w (fun r w' => r = .returned (.tuple #[.bool false, .bool false, .bool false]) ∧ Bel w w')) := ⟨fun w => U2.dPlace (e := 0) w (by decide) rfl⟩
 have HOK := Ho.mk (EN.rp (s.2.2 - 2) (Nat.le_refl _))
 have TT := Ho.mk T
 unfold MakesS at SP
 rw [he] at SP
 have HE := Ho.mk he
 clear T hs EN he
 have e2 : (s.2.1 : Int) = s.2.1 := rfl
 generalize restP s.2.1 s.2.2 w (s.2.2 - 2) = r at *
 generalize (s.2.1 : Int) = rk at *
 generalize (s.2.2 : Int) = rq at *
 go_enter Tryz.func161, Tryz.ntmps161
 go_wp2_with fail
 have KT := Ho.mk ((Blk.new W0 [.int .i64 k, .int .i64 qi] 95).old (.cells #[.bool false, .slice none 0 0, .int .i64 0, .bool false, .slice none 0 0, .int .i64 0, .bool false, .slice none 0 0, .int .i64 0, .bool false, .slice none 0 0, .int .i64 0] 219))
 have KR := Ho.mk (Blk.new (W0.alloc (.cells #[.int .i64 k, .int .i64 qi] 95)) [.bool false, .slice none 0 0, .int .i64 0, .bool false, .slice none 0 0, .int .i64 0, .bool false, .slice none 0 0, .int .i64 0, .bool false, .slice none 0 0, .int .i64 0] 219)
 rw [World.size_alloc] at KR
 have g0 := Ho.mk (((Bel.refl W0).alloc (.cells #[.int .i64 k, .int .i64 qi] 95)).alloc (.cells #[.bool false, .slice none 0 0, .int .i64 0, .bool false, .slice none 0 0, .int .i64 0, .bool false, .slice none 0 0, .int .i64 0, .bool false, .slice none 0 0, .int .i64 0] 219))
 have hS : ((W0.alloc (.cells #[.int .i64 k, .int .i64 qi] 95)).alloc (.cells #[.bool false, .slice none 0 0, .int .i64 0, .bool false, .slice none 0 0, .int .i64 0, .bool false, .slice none 0 0, .int .i64 0, .bool false, .slice none 0 0, .int .i64 0] 219)).heap.size = W0.heap.size + 1 + 1 := by simp only [World.size_alloc]
 generalize ((W0.alloc (.cells #[.int .i64 k, .int .i64 qi] 95)).alloc (.cells #[.bool false, .slice none 0 0, .int .i64 0, .bool false, .slice none 0 0, .int .i64 0, .bool false, .slice none 0 0, .int .i64 0, .bool false, .slice none 0 0, .int .i64 0] 219)) = W at *
 obtain ⟨y0, y1⟩ := KT.out.c2
 go_wp2_with fail
 (with_reducible refine (SP.out _ (TT.out.bel g0.out)).mono ?_); rintro e w1 ⟨rfl, b1⟩
 have KP0 := Ho.mk (Blk.new w1 [.int .i64 0, .int .i64 rk, .int .i64 rq] 134)
 clear y0 y1
 obtain ⟨y0, y1, y2⟩ := KP0.out.c3
 go_wp2_with fail
 (with_reducible refine (RE.out _ (TT.out.bel ((g0.out.trans b1).alloc _))).mono ?_); rintro e w2 ⟨A, a, B, b, C, c, D, d, rfl, n1, n2, n3, n4, b2⟩
 have g2 := Ho.mk (((g0.out.trans b1).alloc (.cells #[.int .i64 0, .int .i64 rk, .int .i64 rq] 134)).trans b2)
 have KP := Ho.mk (KP0.out.bel (b2.alloc (.cells #[.bool (dneg r.1.1), .slice A (digs (dm r.1.1)).length a, .int .i64 (de r.1.1), .bool (dneg r.1.2), .slice B (digs (dm r.1.2)).length b, .int .i64 (de r.1.2), .bool (dneg r.2.1), .slice C (digs (dm r.2.1)).length c, .int .i64 (de r.2.1), .bool (dneg r.2.2), .slice D (digs (dm r.2.2)).length d, .int .i64 (de r.2.2)] 219)))
 have KX := Ho.mk (Blk.new w2 [.bool (dneg r.1.1), .slice A (digs (dm r.1.1)).length a, .int .i64 (de r.1.1), .bool (dneg r.1.2), .slice B (digs (dm r.1.2)).length b, .int .i64 (de r.1.2), .bool (dneg r.2.1), .slice C (digs (dm r.2.1)).length c, .int .i64 (de r.2.1), .bool (dneg r.2.2), .slice D (digs (dm r.2.2)).length d, .int .i64 (de r.2.2)] 219)
 clear y0 y1 y2
 obtain ⟨y0, y1, y2⟩ := KP.out.c3
 go_wp2_with fail
 (with_reducible refine (PL.out _).mono ?_); rintro e w3 ⟨rfl, b3⟩
 have KX2 := Ho.mk (KX.out.bel b3)
 have g3 := Ho.mk ((g2.out.alloc (.cells #[.bool (dneg r.1.1), .slice A (digs (dm r.1.1)).length a, .int .i64 (de r.1.1), .bool (dneg r.1.2), .slice B (digs (dm r.1.2)).length b, .int .i64 (de r.1.2), .bool (dneg r.2.1), .slice C (digs (dm r.2.1)).length c, .int .i64 (de r.2.1), .bool (dneg r.2.2), .slice D (digs (dm r.2.2)).length d, .int .i64 (de r.2.2)] 219)).trans b3)
 have KR2 := Ho.mk (KR.out.bel ((((b1.alloc (.cells #[.int .i64 0, .int .i64 rk, .int .i64 rq] 134)).trans b2).alloc (.cells #[.bool (dneg r.1.1), .slice A (digs (dm r.1.1)).length a, .int .i64 (de r.1.1), .bool (dneg r.1.2), .slice B (digs (dm r.1.2)).length b, .int .i64 (de r.1.2), .bool (dneg r.2.1), .slice C (digs (dm r.2.1)).length c, .int .i64 (de r.2.1), .bool (dneg r.2.2), .slice D (digs (dm r.2.2)).length d, .int .i64 (de r.2.2)] 219)).trans b3))
 have M1 := Ho.mk ((n1.bel ((Bel.refl w2).alloc (.cells #[.bool (dneg r.1.1), .slice A (digs (dm r.1.1)).length a, .int .i64 (de r.1.1), .bool (dneg r.1.2), .slice B (digs (dm r.1.2)).length b, .int .i64 (de r.1.2), .bool (dneg r.2.1), .slice C (digs (dm r.2.1)).length c, .int .i64 (de r.2.1), .bool (dneg r.2.2), .slice D (digs (dm r.2.2)).length d, .int .i64 (de r.2.2)] 219))).bel b3)
 have M2 := Ho.mk ((n2.bel ((Bel.refl w2).alloc (.cells #[.bool (dneg r.1.1), .slice A (digs (dm r.1.1)).length a, .int .i64 (de r.1.1), .bool (dneg r.1.2), .slice B (digs (dm r.1.2)).length b, .int .i64 (de r.1.2), .bool (dneg r.2.1), .slice C (digs (dm r.2.1)).length c, .int .i64 (de r.2.1), .bool (dneg r.2.2), .slice D (digs (dm r.2.2)).length d, .int .i64 (de r.2.2)] 219))).bel b3)
 have M3 := Ho.mk ((n3.bel ((Bel.refl w2).alloc (.cells #[.bool (dneg r.1.1), .slice A (digs (dm r.1.1)).length a, .int .i64 (de r.1.1), .bool (dneg r.1.2), .slice B (digs (dm r.1.2)).length b, .int .i64 (de r.1.2), .bool (dneg r.2.1), .slice C (digs (dm r.2.1)).length c, .int .i64 (de r.2.1), .bool (dneg r.2.2), .slice D (digs (dm r.2.2)).length d, .int .i64 (de r.2.2)] 219))).bel b3)
 have M4 := Ho.mk ((n4.bel ((Bel.refl w2).alloc (.cells #[.bool (dneg r.1.1), .slice A (digs (dm r.1.1)).length a, .int .i64 (de r.1.1), .bool (dneg r.1.2), .slice B (digs (dm r.1.2)).length b, .int .i64 (de r.1.2), .bool (dneg r.2.1), .slice C (digs (dm r.2.1)).length c, .int .i64 (de r.2.1), .bool (dneg r.2.2), .slice D (digs (dm r.2.2)).length d, .int .i64 (de r.2.2)] 219))).bel b3)
 have hw2 : W0.heap.size + 2 ≤ w2.heap.size := by have h1 := b1.size; have h2 := b2.size; simp only [World.size_alloc] at h2; omega
 clear y0 y1 y2 n1 n2 n3 n4 b1 b2 b3
 generalize w2.heap.size = bx at *
 obtain ⟨y0, y1, y2, y3, y4, y5, y6, y7, y8, y9, y10, y11⟩ := KX2.out.c12
 obtain ⟨x0, x1, x2, x3, x4, x5, x6, x7, x8, x9, x10, x11⟩ := KR2.out.c12
 have z0 := KR2.out.free 0
 have z1 := KR2.out.free 1
 have z2 := KR2.out.free 2
 have z3 := KR2.out.free 3
 have z4 := KR2.out.free 4
 have z5 := KR2.out.free 5
 have z6 := KR2.out.free 6
 have z7 := KR2.out.free 7
 have z8 := KR2.out.free 8
 have z9 := KR2.out.free 9
 have z10 := KR2.out.free 10
 have z11 := KR2.out.free 11
 go_wp2
 exact gives_endP (fn := Tryz.f161) (p := r) rfl rfl g3.out (by omega) KR2.out (ni_zero KR2.out) M1.out M2.out M3.out M4.out
theorem of_1 {q w : Nat} {k ki qi wi : Int} {s : Nat × (Nat × Nat)} (W0 : World) (T : Tab W0) (hk : k = ki) (hq : (q : Int) = qi) (hq9 : q ≤ 9) (hs : splitT k q = s) (he : s.1 = 1) (hs9 : s.2.2 ≤ 9) (hk9 : s.2.1 < 64) (hs3 : s.2.2 = 0 ∨ 3 ≤ s.2.2) (hw : w ≤ 3000) (hwi : (w : Int) = wi) (EN : RestOk s.2.1 s.2.2 w) :
  Calls Tryz.prog 161 #[.agg #[.int .i64 ki, .int .i64 qi], .int .i64 wi] W0 (MakesP W0 ((restP s.2.1 s.2.2 w (s.2.2 - 2)).2, (restP s.2.1 s.2.2 w (s.2.2 - 2)).1) 400 3) := by
 subst hk
 have SP := Ho.mk (fun w T => dSplit (k := k) w T hq hq9)
 rw [hs] at SP
 have RE := Ho.mk (fun W T => dRest (ki := (s.2.1 : Int)) (Qi := (s.2.2 : Int)) W T rfl rfl hw hwi hs9 hk9 EN hs3)
 have PL : Ho (∀ w, Calls Tryz.prog 106 #[.int .i64 1] w (fun r w' => r = .returned (.tuple #[.bool true, .bool false, .bool false]) ∧ Bel w w')) := ⟨fun w => U2.dPlace (e := 1) w (by decide) rfl⟩
 have HOK := Ho.mk (EN.rp (s.2.2 - 2) (Nat.le_refl _))
 have TT := Ho.mk T
 unfold MakesS at SP
 rw [he] at SP
 have HE := Ho.mk he
 clear T hs EN he
 have e2 : (s.2.1 : Int) = s.2.1 := rfl
 generalize restP s.2.1 s.2.2 w (s.2.2 - 2) = r at *
 generalize (s.2.1 : Int) = rk at *
 generalize (s.2.2 : Int) = rq at *
 go_enter Tryz.func161, Tryz.ntmps161
 go_wp2_with fail
 have KT := Ho.mk ((Blk.new W0 [.int .i64 k, .int .i64 qi] 95).old (.cells #[.bool false, .slice none 0 0, .int .i64 0, .bool false, .slice none 0 0, .int .i64 0, .bool false, .slice none 0 0, .int .i64 0, .bool false, .slice none 0 0, .int .i64 0] 219))
 have KR := Ho.mk (Blk.new (W0.alloc (.cells #[.int .i64 k, .int .i64 qi] 95)) [.bool false, .slice none 0 0, .int .i64 0, .bool false, .slice none 0 0, .int .i64 0, .bool false, .slice none 0 0, .int .i64 0, .bool false, .slice none 0 0, .int .i64 0] 219)
 rw [World.size_alloc] at KR
 have g0 := Ho.mk (((Bel.refl W0).alloc (.cells #[.int .i64 k, .int .i64 qi] 95)).alloc (.cells #[.bool false, .slice none 0 0, .int .i64 0, .bool false, .slice none 0 0, .int .i64 0, .bool false, .slice none 0 0, .int .i64 0, .bool false, .slice none 0 0, .int .i64 0] 219))
 have hS : ((W0.alloc (.cells #[.int .i64 k, .int .i64 qi] 95)).alloc (.cells #[.bool false, .slice none 0 0, .int .i64 0, .bool false, .slice none 0 0, .int .i64 0, .bool false, .slice none 0 0, .int .i64 0, .bool false, .slice none 0 0, .int .i64 0] 219)).heap.size = W0.heap.size + 1 + 1 := by simp only [World.size_alloc]
 generalize ((W0.alloc (.cells #[.int .i64 k, .int .i64 qi] 95)).alloc (.cells #[.bool false, .slice none 0 0, .int .i64 0, .bool false, .slice none 0 0, .int .i64 0, .bool false, .slice none 0 0, .int .i64 0, .bool false, .slice none 0 0, .int .i64 0] 219)) = W at *
 obtain ⟨y0, y1⟩ := KT.out.c2
 go_wp2_with fail
 (with_reducible refine (SP.out _ (TT.out.bel g0.out)).mono ?_); rintro e w1 ⟨rfl, b1⟩
 have KP0 := Ho.mk (Blk.new w1 [.int .i64 1, .int .i64 rk, .int .i64 rq] 134)
 clear y0 y1
 obtain ⟨y0, y1, y2⟩ := KP0.out.c3
 go_wp2_with fail
 (with_reducible refine (RE.out _ (TT.out.bel ((g0.out.trans b1).alloc _))).mono ?_); rintro e w2 ⟨A, a, B, b, C, c, D, d, rfl, n1, n2, n3, n4, b2⟩
 have g2 := Ho.mk (((g0.out.trans b1).alloc (.cells #[.int .i64 1, .int .i64 rk, .int .i64 rq] 134)).trans b2)
 have KP := Ho.mk (KP0.out.bel (b2.alloc (.cells #[.bool (dneg r.1.1), .slice A (digs (dm r.1.1)).length a, .int .i64 (de r.1.1), .bool (dneg r.1.2), .slice B (digs (dm r.1.2)).length b, .int .i64 (de r.1.2), .bool (dneg r.2.1), .slice C (digs (dm r.2.1)).length c, .int .i64 (de r.2.1), .bool (dneg r.2.2), .slice D (digs (dm r.2.2)).length d, .int .i64 (de r.2.2)] 219)))
 have KX := Ho.mk (Blk.new w2 [.bool (dneg r.1.1), .slice A (digs (dm r.1.1)).length a, .int .i64 (de r.1.1), .bool (dneg r.1.2), .slice B (digs (dm r.1.2)).length b, .int .i64 (de r.1.2), .bool (dneg r.2.1), .slice C (digs (dm r.2.1)).length c, .int .i64 (de r.2.1), .bool (dneg r.2.2), .slice D (digs (dm r.2.2)).length d, .int .i64 (de r.2.2)] 219)
 clear y0 y1 y2
 obtain ⟨y0, y1, y2⟩ := KP.out.c3
 go_wp2_with fail
 (with_reducible refine (PL.out _).mono ?_); rintro e w3 ⟨rfl, b3⟩
 have KX2 := Ho.mk (KX.out.bel b3)
 have g3 := Ho.mk ((g2.out.alloc (.cells #[.bool (dneg r.1.1), .slice A (digs (dm r.1.1)).length a, .int .i64 (de r.1.1), .bool (dneg r.1.2), .slice B (digs (dm r.1.2)).length b, .int .i64 (de r.1.2), .bool (dneg r.2.1), .slice C (digs (dm r.2.1)).length c, .int .i64 (de r.2.1), .bool (dneg r.2.2), .slice D (digs (dm r.2.2)).length d, .int .i64 (de r.2.2)] 219)).trans b3)
 have KR2 := Ho.mk (KR.out.bel ((((b1.alloc (.cells #[.int .i64 1, .int .i64 rk, .int .i64 rq] 134)).trans b2).alloc (.cells #[.bool (dneg r.1.1), .slice A (digs (dm r.1.1)).length a, .int .i64 (de r.1.1), .bool (dneg r.1.2), .slice B (digs (dm r.1.2)).length b, .int .i64 (de r.1.2), .bool (dneg r.2.1), .slice C (digs (dm r.2.1)).length c, .int .i64 (de r.2.1), .bool (dneg r.2.2), .slice D (digs (dm r.2.2)).length d, .int .i64 (de r.2.2)] 219)).trans b3))
 have M1 := Ho.mk ((n1.bel ((Bel.refl w2).alloc (.cells #[.bool (dneg r.1.1), .slice A (digs (dm r.1.1)).length a, .int .i64 (de r.1.1), .bool (dneg r.1.2), .slice B (digs (dm r.1.2)).length b, .int .i64 (de r.1.2), .bool (dneg r.2.1), .slice C (digs (dm r.2.1)).length c, .int .i64 (de r.2.1), .bool (dneg r.2.2), .slice D (digs (dm r.2.2)).length d, .int .i64 (de r.2.2)] 219))).bel b3)
 have M2 := Ho.mk ((n2.bel ((Bel.refl w2).alloc (.cells #[.bool (dneg r.1.1), .slice A (digs (dm r.1.1)).length a, .int .i64 (de r.1.1), .bool (dneg r.1.2), .slice B (digs (dm r.1.2)).length b, .int .i64 (de r.1.2), .bool (dneg r.2.1), .slice C (digs (dm r.2.1)).length c, .int .i64 (de r.2.1), .bool (dneg r.2.2), .slice D (digs (dm r.2.2)).length d, .int .i64 (de r.2.2)] 219))).bel b3)
 have M3 := Ho.mk ((n3.bel ((Bel.refl w2).alloc (.cells #[.bool (dneg r.1.1), .slice A (digs (dm r.1.1)).length a, .int .i64 (de r.1.1), .bool (dneg r.1.2), .slice B (digs (dm r.1.2)).length b, .int .i64 (de r.1.2), .bool (dneg r.2.1), .slice C (digs (dm r.2.1)).length c, .int .i64 (de r.2.1), .bool (dneg r.2.2), .slice D (digs (dm r.2.2)).length d, .int .i64 (de r.2.2)] 219))).bel b3)
 have M4 := Ho.mk ((n4.bel ((Bel.refl w2).alloc (.cells #[.bool (dneg r.1.1), .slice A (digs (dm r.1.1)).length a, .int .i64 (de r.1.1), .bool (dneg r.1.2), .slice B (digs (dm r.1.2)).length b, .int .i64 (de r.1.2), .bool (dneg r.2.1), .slice C (digs (dm r.2.1)).length c, .int .i64 (de r.2.1), .bool (dneg r.2.2), .slice D (digs (dm r.2.2)).length d, .int .i64 (de r.2.2)] 219))).bel b3)
 have hw2 : W0.heap.size + 2 ≤ w2.heap.size := by have h1 := b1.size; have h2 := b2.size; simp only [World.size_alloc] at h2; omega
 clear y0 y1 y2 n1 n2 n3 n4 b1 b2 b3
 generalize w2.heap.size = bx at *
 obtain ⟨y0, y1, y2, y3, y4, y5, y6, y7, y8, y9, y10, y11⟩ := KX2.out.c12
 have z0 := KX2.out.free 0
 have z1 := KX2.out.free 1
 have z2 := KX2.out.free 2
 have z3 := KX2.out.free 3
 have z4 := KX2.out.free 4
 have z5 := KX2.out.free 5
 have z6 := KX2.out.free 6
 have z7 := KX2.out.free 7
 have z8 := KX2.out.free 8
 have z9 := KX2.out.free 9
 have z10 := KX2.out.free 10
 have z11 := KX2.out.free 11
 dsimp only
 go_at_K
 iterate 65 (first | go_values | go_guarded | go_step | go_upon | skip)
 --@@
 clear y0 y1 y2 y3 y4 y5 y6 y7 y8 y9 y10 y11 z0 z1 z2 z3 z4 z5 z6 z7 z8 z9 z10 z11
 have hN : NI w3 bx := ni_pc (x := ⟨A, a, B, b, C, c, D, d, r⟩) KX2.out HOK.out
 have KY := Ho.mk (blk_set12 KX2.out (.bool (dneg r.2.1)) (.slice C (digs (dm r.2.1)).length c) (.int .i64 (de r.2.1)) (.bool (dneg r.2.2)) (.slice D (digs (dm r.2.2)).length d) (.int .i64 (de r.2.2)) (.bool (dneg r.1.1)) (.slice A (digs (dm r.1.1)).length a) (.int .i64 (de r.1.1)) (.bool (dneg r.1.2)) (.slice B (digs (dm r.1.2)).length b) (.int .i64 (de r.1.2)))
 have hlt := KX2.out.lt
 have hrl := KR2.out.lt
 have N1 := Ho.mk (dv_set12 M3.out hN (.bool (dneg r.2.1)) (.slice C (digs (dm r.2.1)).length c) (.int .i64 (de r.2.1)) (.bool (dneg r.2.2)) (.slice D (digs (dm r.2.2)).length d) (.int .i64 (de r.2.2)) (.bool (dneg r.1.1)) (.slice A (digs (dm r.1.1)).length a) (.int .i64 (de r.1.1)) (.bool (dneg r.1.2)) (.slice B (digs (dm r.1.2)).length b) (.int .i64 (de r.1.2)))
 have N2 := Ho.mk (dv_set12 M4.out hN (.bool (dneg r.2.1)) (.slice C (digs (dm r.2.1)).length c) (.int .i64 (de r.2.1)) (.bool (dneg r.2.2)) (.slice D (digs (dm r.2.2)).length d) (.int .i64 (de r.2.2)) (.bool (dneg r.1.1)) (.slice A (digs (dm r.1.1)).length a) (.int .i64 (de r.1.1)) (.bool (dneg r.1.2)) (.slice B (digs (dm r.1.2)).length b) (.int .i64 (de r.1.2)))
 have N3 := Ho.mk (dv_set12 M1.out hN (.bool (dneg r.2.1)) (.slice C (digs (dm r.2.1)).length c) (.int .i64 (de r.2.1)) (.bool (dneg r.2.2)) (.slice D (digs (dm r.2.2)).length d) (.int .i64 (de r.2.2)) (.bool (dneg r.1.1)) (.slice A (digs (dm r.1.1)).length a) (.int .i64 (de r.1.1)) (.bool (dneg r.1.2)) (.slice B (digs (dm r.1.2)).length b) (.int .i64 (de r.1.2)))
 have N4 := Ho.mk (dv_set12 M2.out hN (.bool (dneg r.2.1)) (.slice C (digs (dm r.2.1)).length c) (.int .i64 (de r.2.1)) (.bool (dneg r.2.2)) (.slice D (digs (dm r.2.2)).length d) (.int .i64 (de r.2.2)) (.bool (dneg r.1.1)) (.slice A (digs (dm r.1.1)).length a) (.int .i64 (de r.1.1)) (.bool (dneg r.1.2)) (.slice B (digs (dm r.1.2)).length b) (.int .i64 (de r.1.2)))
 have g4 := Ho.mk (bel_set12 g3.out (show W0.heap.size ≤ bx by omega) (.bool (dneg r.2.1)) (.slice C (digs (dm r.2.1)).length c) (.int .i64 (de r.2.1)) (.bool (dneg r.2.2)) (.slice D (digs (dm r.2.2)).length d) (.int .i64 (de r.2.2)) (.bool (dneg r.1.1)) (.slice A (digs (dm r.1.1)).length a) (.int .i64 (de r.1.1)) (.bool (dneg r.1.2)) (.slice B (digs (dm r.1.2)).length b) (.int .i64 (de r.1.2)))
 have KR3 : Ho (Blk (set12 w3 bx (.bool (dneg r.2.1)) (.slice C (digs (dm r.2.1)).length c) (.int .i64 (de r.2.1)) (.bool (dneg r.2.2)) (.slice D (digs (dm r.2.2)).length d) (.int .i64 (de r.2.2)) (.bool (dneg r.1.1)) (.slice A (digs (dm r.1.1)).length a) (.int .i64 (de r.1.1)) (.bool (dneg r.1.2)) (.slice B (digs (dm r.1.2)).length b) (.int .i64 (de r.1.2))) (W0.heap.size + 1) 219 [.bool false, .slice none 0 0, .int .i64 0, .bool false, .slice none 0 0, .int .i64 0, .bool false, .slice none 0 0, .int .i64 0, .bool false, .slice none 0 0, .int .i64 0]) := ⟨blk_keep KR2.out (set12_other (by omega) _ _ _ _ _ _ _ _ _ _ _ _)⟩
 obtain ⟨wf, hwf⟩ : ∃ wf, set12 w3 bx (.bool (dneg r.2.1)) (.slice C (digs (dm r.2.1)).length c) (.int .i64 (de r.2.1)) (.bool (dneg r.2.2)) (.slice D (digs (dm r.2.2)).length d) (.int .i64 (de r.2.2)) (.bool (dneg r.1.1)) (.slice A (digs (dm r.1.1)).length a) (.int .i64 (de r.1.1)) (.bool (dneg r.1.2)) (.slice B (digs (dm r.1.2)).length b) (.int .i64 (de r.1.2)) = wf := ⟨_, rfl⟩
 rw [hwf] at KY N1 N2 N3 N4 g4 KR3
 unfold set12 at hwf
 rw [hwf]
 clear hwf hN KX2
 obtain ⟨y0, y1, y2, y3, y4, y5, y6, y7, y8, y9, y10, y11⟩ := KY.out.c12
 obtain ⟨x0, x1, x2, x3, x4, x5, x6, x7, x8, x9, x10, x11⟩ := KR3.out.c12
 have z0 := KR3.out.free 0
 have z1 := KR3.out.free 1
 have z2 := KR3.out.free 2
 have z3 := KR3.out.free 3
 have z4 := KR3.out.free 4
 have z5 := KR3.out.free 5
 have z6 := KR3.out.free 6
 have z7 := KR3.out.free 7
 have z8 := KR3.out.free 8
 have z9 := KR3.out.free 9
 have z10 := KR3.out.free 10
 have z11 := KR3.out.free 11
 go_wp2
 exact gives_endP (fn := Tryz.f161) (p := ((r.2, r.1) : Pt)) rfl rfl g4.out (by omega) KR3.out (ni_zero KR3.out) N1.out N2.out N3.out N4.out
end C7
namespace C8
open Go Go.RowKit Go.Proofs Go.Proofs.YtalbgklfhabnkaaGreatDoor Ow Pl Dp Dt D3 F1 T0 I0 V1 T1 U0 U1
open C0
attribute [local go_sem ↓] Go.wp_at_zero Go.wp_at_succ
theorem wid_makes {w : World} {v f : Int} {L U L' U' : Nat} (h : v = f) (k : Wd f L' U') : ∀ e w', MakesD w v L U e w' → MakesD w f L' U' e w' := by
 subst h
 rintro e w' ⟨A, c, rfl, d, b⟩
 exact ⟨A, c, rfl, I0.Dv.wid d k, b⟩
theorem dEnds {A0 B0 : Option Addr} {c0 d0 n : Nat} {a : Iv} {nn : Int} (w : World) (T : Tab w) (p0l : Dv w A0 c0 a.1 400 3) (p0h : Dv w B0 d0 a.2 400 3) (hn : n ≤ 200) (hnn : (n : Int) = nn) (o1 : OkV (endsV a n).1) (o2 : OkV (endsV a n).2) (hk : knownB a n = true) :
  Calls Tryz.prog 160 #[.agg #[.bool (dneg a.1), .slice A0 (digs (dm a.1)).length c0, .int .i64 (de a.1), .bool (dneg a.2), .slice B0 (digs (dm a.2)).length d0, .int .i64 (de a.2)], .int .i64 nn] w (MakesIB w (endsV a n) true 400 3) := by
 obtain ⟨f1, hf1⟩ : ∃ f1, floorV a.1 n = f1 := ⟨_, rfl⟩
 obtain ⟨m2, hm2⟩ : ∃ m2, -a.2 = m2 := ⟨_, rfl⟩
 obtain ⟨f3, hf3⟩ : ∃ f3, floorV m2 n = f3 := ⟨_, rfl⟩
 obtain ⟨f2, hf2⟩ : ∃ f2, -f3 = f2 := ⟨_, rfl⟩
 have he : endsV a n = (f1, f2) := by unfold endsV; rw [hf1, hm2, hf3, hf2]
 rw [he] at o1 o2 ⊢
 have hk2 : cmpI (shiftD (f2 + -f1) n) (2 ^ K) ≤ 0 := by
  unfold knownB at hk
  rw [he] at hk
  exact of_decide_eq_true hk
 have w3 : Wd f3 400 3 := by rw [show f3 = -f2 by omega]; exact Wd.neg o2.wd
 have wm : Wd m2 400 3 := by rw [← hm2]; exact Wd.neg p0h.wd
 have TT := Ho.mk T
 have C1 := Ho.mk (fun (W : World) (g : Bel w W) => (Go.Proofs.YtalbgklfhabnkaaGreatDoor.C2.dFloor (n := n) (nn := nn) W (TT.out.bel g) (p0l.bel g) (by omega) (by omega) (by omega) hnn).mono (wid_makes hf1 o1.wd))
 have C2 := Ho.mk (fun (W : World) (g : Bel w W) => (F1.dFlip (TT.out.bel g) (p0h.bel g) (by omega)).mono (wid_makes hm2 wm))
 have C3 := Ho.mk (fun (W : World) (A : Option Addr) (c : Nat) (g : Bel w W) (h : Dv W A c m2 400 3) => (Go.Proofs.YtalbgklfhabnkaaGreatDoor.C2.dFloor (n := n) (nn := nn) W (TT.out.bel g) h (by omega) (by omega) (by omega) hnn).mono (wid_makes hf3 w3))
 have C4 := Ho.mk (fun (W : World) (A : Option Addr) (c : Nat) (g : Bel w W) (h : Dv W A c f3 400 3) => (F1.dFlip (TT.out.bel g) h (by omega)).mono (wid_makes hf2 o2.wd))
 have HK := Ho.mk hk2
 clear T p0l p0h o1 o2 hk hk2 he hf1 hm2 hf3 hf2 w3 wm
 go_enter Tryz.func160, Tryz.ntmps160
 go_wp2_with fail
 have KB := Ho.mk ((Blk.new w [.bool (dneg a.1), .slice A0 (digs (dm a.1)).length c0, .int .i64 (de a.1), .bool (dneg a.2), .slice B0 (digs (dm a.2)).length d0, .int .i64 (de a.2)] 42).old (.cells #[.bool false, .slice none 0 0, .int .i64 0, .bool false, .slice none 0 0, .int .i64 0] 42))
 have KR := Ho.mk (Blk.new (w.alloc (.cells #[.bool (dneg a.1), .slice A0 (digs (dm a.1)).length c0, .int .i64 (de a.1), .bool (dneg a.2), .slice B0 (digs (dm a.2)).length d0, .int .i64 (de a.2)] 42)) [.bool false, .slice none 0 0, .int .i64 0, .bool false, .slice none 0 0, .int .i64 0] 42)
 rw [World.size_alloc] at KR
 have g0 := Ho.mk (((Bel.refl w).alloc (.cells #[.bool (dneg a.1), .slice A0 (digs (dm a.1)).length c0, .int .i64 (de a.1), .bool (dneg a.2), .slice B0 (digs (dm a.2)).length d0, .int .i64 (de a.2)] 42)).alloc (.cells #[.bool false, .slice none 0 0, .int .i64 0, .bool false, .slice none 0 0, .int .i64 0] 42))
 have hS : ((w.alloc (.cells #[.bool (dneg a.1), .slice A0 (digs (dm a.1)).length c0, .int .i64 (de a.1), .bool (dneg a.2), .slice B0 (digs (dm a.2)).length d0, .int .i64 (de a.2)] 42)).alloc (.cells #[.bool false, .slice none 0 0, .int .i64 0, .bool false, .slice none 0 0, .int .i64 0] 42)).heap.size = w.heap.size + 1 + 1 := by simp only [World.size_alloc]
 generalize ((w.alloc (.cells #[.bool (dneg a.1), .slice A0 (digs (dm a.1)).length c0, .int .i64 (de a.1), .bool (dneg a.2), .slice B0 (digs (dm a.2)).length d0, .int .i64 (de a.2)] 42)).alloc (.cells #[.bool false, .slice none 0 0, .int .i64 0, .bool false, .slice none 0 0, .int .i64 0] 42)) = W at *
 obtain ⟨y0, y1, y2, y3, y4, y5⟩ := KB.out.c6
 go_upto_region 1 with fail
 clear y0 y1 y2 y3 y4 y5
 have WS := Ho.mk hS
 clear hS
 go_cut [6] (fun s6 wy => ∃ (p : Nat) (A : Option Addr) (c : Nat) (B : Option Addr) (d : Nat), s6 = .pointer (some ⟨p, 0, none⟩) ∧ Ho (Blk wy p 42 [.bool (dneg f1), .slice A (digs (dm f1)).length c, .int .i64 (de f1), .bool (dneg f2), .slice B (digs (dm f2)).length d, .int .i64 (de f2)]) ∧ Ho (Dv wy A c f1 400 3) ∧ Ho (Dv wy B d f2 400 3) ∧ Ho (Bel W wy) ∧ Ho (W.heap.size ≤ p))
 case first =>
  obtain ⟨y0, y1, y2, y3, y4, y5⟩ := KB.out.c6
  refine wp_region_held_drew (S := fun w' => Bel W w') (by kernel_rfl) (Bel.refl _).drew (fun hHeld => ?_)
  (try dsimp only at hHeld)
  generalize W.drew = wx at *
  have n0 := trivial
  repeat' (first
   |
    clear t3
    go_simp
    go_at_call 172
    refine (C1.out _ (g0.out.trans hHeld)).mono ?_
    rintro e wx ⟨A1, c1, rfl, n1, bwx⟩
    have N1 := Ho.mk n1
    clear n1
    try go_wp2_with fail
    refine hK.out _ _ (Bel.trans hHeld bwx) (fun hHeld => ?_)
    clear hK K
    try have KF := Ho.mk (KF.out.bel bwx)
    try have lt_p := Nat.lt_of_lt_of_le lt_p bwx.size
    clear bwx
    try simp only [Act.put, Ow.zS, Ow.zC, Ow.zD]
   |
    clear t6
    go_simp
    go_at_call 173
    refine (C2.out _ (g0.out.trans hHeld)).mono ?_
    rintro e wx ⟨A2, c2, rfl, n2, bwx⟩
    have N2 := Ho.mk n2
    clear n2
    try go_wp2_with fail
    refine hK.out _ _ (Bel.trans hHeld bwx) (fun hHeld => ?_)
    clear hK K
    have N1 := Ho.mk (N1.out.bel bwx)
    try have KF := Ho.mk (KF.out.bel bwx)
    try have lt_p := Nat.lt_of_lt_of_le lt_p bwx.size
    clear bwx
    try simp only [Act.put, Ow.zS, Ow.zC, Ow.zD]
   |
    clear t8
    go_simp
    go_at_call 172
    refine (C3.out _ _ _ (g0.out.trans hHeld) N2.out).mono ?_
    rintro e wx ⟨A3, c3, rfl, n3, bwx⟩
    have N3 := Ho.mk n3
    clear n3
    try go_wp2_with fail
    refine hK.out _ _ (Bel.trans hHeld bwx) (fun hHeld => ?_)
    clear hK K
    have N1 := Ho.mk (N1.out.bel bwx)
    have N2 := Ho.mk (N2.out.bel bwx)
    try have KF := Ho.mk (KF.out.bel bwx)
    try have lt_p := Nat.lt_of_lt_of_le lt_p bwx.size
    clear bwx
    try simp only [Act.put, Ow.zS, Ow.zC, Ow.zD]
   |
    clear t9
    go_simp
    go_at_call 173
    refine (C4.out _ _ _ (g0.out.trans hHeld) N3.out).mono ?_
    rintro e wx ⟨A4, c4, rfl, n4, bwx⟩
    have N4 := Ho.mk n4
    clear n4
    try go_wp2_with fail
    refine hK.out _ _ (Bel.trans hHeld bwx) (fun hHeld => ?_)
    clear hK K
    have N1 := Ho.mk (N1.out.bel bwx)
    have N2 := Ho.mk (N2.out.bel bwx)
    have N3 := Ho.mk (N3.out.bel bwx)
    try have KF := Ho.mk (KF.out.bel bwx)
    try have lt_p := Nat.lt_of_lt_of_le lt_p bwx.size
    clear bwx
    try simp only [Act.put, Ow.zS, Ow.zC, Ow.zD]
   |
    clear t11
    go_simp
    have le_p := hHeld.size
    refine hK.out _ _ (Bel.alloc hHeld _) (fun hHeld => ?_)
    clear hK K
    have KF := Ho.mk (Blk.new wx [.bool false, .slice none 0 0, .int .i64 0, .bool false, .slice none 0 0, .int .i64 0] 42)
    have ga := (Bel.refl wx).alloc (.cells #[.bool false, .slice none 0 0, .int .i64 0, .bool false, .slice none 0 0, .int .i64 0] 42)
    try have N1 := Ho.mk (N1.out.bel ga)
    try have N2 := Ho.mk (N2.out.bel ga)
    try have N3 := Ho.mk (N3.out.bel ga)
    try have N4 := Ho.mk (N4.out.bel ga)
    clear ga
    have lt_p : wx.heap.size < (World.alloc wx (.cells #[.bool false, .slice none 0 0, .int .i64 0, .bool false, .slice none 0 0, .int .i64 0] 42)).heap.size := by rw [World.size_alloc]; exact Nat.lt_succ_self _
    generalize wx.heap.size = p at *
    generalize World.alloc wx (.cells #[.bool false, .slice none 0 0, .int .i64 0, .bool false, .slice none 0 0, .int .i64 0] 42) = wx at *
    try simp only [Act.put, Ow.zS, Ow.zC, Ow.zD]
   |
    clear t12
    go_simp
    have N1 : Ho (Dv (World.setCell (World.setCell (World.setCell (World.setCell (World.setCell (World.setCell wx ⟨p, 0, none⟩ (.bool (dneg f1))) ⟨p, 1, none⟩ (.slice A1 (digs (dm f1)).length c1)) ⟨p, 2, none⟩ (.int .i64 (de f1))) ⟨p, 3, none⟩ (.bool (dneg f2))) ⟨p, 4, none⟩ (.slice A4 (digs (dm f2)).length c4)) ⟨p, 5, none⟩ (.int .i64 (de f2))) A1 c1 f1 400 3) := ⟨dv_set6 N1.out KF.out (.bool (dneg f1)) (.slice A1 (digs (dm f1)).length c1) (.int .i64 (de f1)) (.bool (dneg f2)) (.slice A4 (digs (dm f2)).length c4) (.int .i64 (de f2))⟩
    skip
    skip
    have N4 : Ho (Dv (World.setCell (World.setCell (World.setCell (World.setCell (World.setCell (World.setCell wx ⟨p, 0, none⟩ (.bool (dneg f1))) ⟨p, 1, none⟩ (.slice A1 (digs (dm f1)).length c1)) ⟨p, 2, none⟩ (.int .i64 (de f1))) ⟨p, 3, none⟩ (.bool (dneg f2))) ⟨p, 4, none⟩ (.slice A4 (digs (dm f2)).length c4)) ⟨p, 5, none⟩ (.int .i64 (de f2))) A4 c4 f2 400 3) := ⟨dv_set6 N4.out KF.out (.bool (dneg f1)) (.slice A1 (digs (dm f1)).length c1) (.int .i64 (de f1)) (.bool (dneg f2)) (.slice A4 (digs (dm f2)).length c4) (.int .i64 (de f2))⟩
    have KF := Ho.mk ((((((KF.out.set 0 (.bool (dneg f1))).set 1 (.slice A1 (digs (dm f1)).length c1)).set 2 (.int .i64 (de f1))).set 3 (.bool (dneg f2))).set 4 (.slice A4 (digs (dm f2)).length c4)).set 5 (.int .i64 (de f2)))
    simp only [List.set_cons_zero, List.set_cons_succ] at KF
    refine hK.out _ _ ⟨((((((hHeld.out.setCell (p := ⟨p, 0, none⟩) (by dsimp only; omega) (.bool (dneg f1))).setCell (p := ⟨p, 1, none⟩) (by dsimp only; omega) (.slice A1 (digs (dm f1)).length c1)).setCell (p := ⟨p, 2, none⟩) (by dsimp only; omega) (.int .i64 (de f1))).setCell (p := ⟨p, 3, none⟩) (by dsimp only; omega) (.bool (dneg f2))).setCell (p := ⟨p, 4, none⟩) (by dsimp only; omega) (.slice A4 (digs (dm f2)).length c4)).setCell (p := ⟨p, 5, none⟩) (by dsimp only; omega) (.int .i64 (de f2)))⟩ (fun hHeld => ?_)
    clear hK K y0 x0 y1 x1 y2 x2 y3 x3 y4 x4 y5 x5
    have lt_p : p < (World.setCell (World.setCell (World.setCell (World.setCell (World.setCell (World.setCell wx ⟨p, 0, none⟩ (.bool (dneg f1))) ⟨p, 1, none⟩ (.slice A1 (digs (dm f1)).length c1)) ⟨p, 2, none⟩ (.int .i64 (de f1))) ⟨p, 3, none⟩ (.bool (dneg f2))) ⟨p, 4, none⟩ (.slice A4 (digs (dm f2)).length c4)) ⟨p, 5, none⟩ (.int .i64 (de f2))).heap.size := by simpa [World.setCell] using lt_p
    generalize World.setCell (World.setCell (World.setCell (World.setCell (World.setCell (World.setCell wx ⟨p, 0, none⟩ (.bool (dneg f1))) ⟨p, 1, none⟩ (.slice A1 (digs (dm f1)).length c1)) ⟨p, 2, none⟩ (.int .i64 (de f1))) ⟨p, 3, none⟩ (.bool (dneg f2))) ⟨p, 4, none⟩ (.slice A4 (digs (dm f2)).length c4)) ⟨p, 5, none⟩ (.int .i64 (de f2)) = wx at *
    try simp only [Act.put, Ow.zS, Ow.zC, Ow.zD]
   |
    clear n11
    refine wpAnyH_done (by kernel_rfl) ?_ _
   |
    clear n9
    obtain ⟨y0, y1, y2, y3, y4, y5⟩ := KF.out.c6
    have x0 := KF.out.free 0
    have x1 := KF.out.free 1
    have x2 := KF.out.free 2
    have x3 := KF.out.free 3
    have x4 := KF.out.free 4
    have x5 := KF.out.free 5
    refine rc (i := 12) (fun K hK => have t12 := trivial; have n11 := trivial; ?_)
   |
    clear n10
    refine rt (i := 10) hHeld ?_
    try simp only [Act.put, Ow.zS, Ow.zC, Ow.zD]
    obtain ⟨y0, y1, y2, y3, y4, y5⟩ := KF.out.c6
    have x0 := KF.out.free 0
    have x1 := KF.out.free 1
    have x2 := KF.out.free 2
    have x3 := KF.out.free 3
    have x4 := KF.out.free 4
    have x5 := KF.out.free 5
    refine rc (i := 12) (fun K hK => have t12 := trivial; have n11 := trivial; ?_)
   |
    clear n7
    refine rt (i := 10) hHeld ?_
    try simp only [Act.put, Ow.zS, Ow.zC, Ow.zD]
    refine rc (i := 11) (fun K hK => have t11 := trivial; have n9 := trivial; ?_)
   |
    clear n8
    refine rc (i := 9) (fun K hK => have t9 := trivial; have n10 := trivial; ?_)
   |
    clear n5
    refine I6.rc2 (i := 9) (j := 11) (fun K hK => have t9 := trivial; have n7 := trivial; ?_) (fun K hK => have t11 := trivial; have n8 := trivial; ?_)
   |
    clear n6
    refine rc (i := 8) (fun K hK => have t8 := trivial; have n8 := trivial; ?_)
   |
    clear n3
    refine I6.rc2 (i := 8) (j := 11) (fun K hK => have t8 := trivial; have n5 := trivial; ?_) (fun K hK => have t11 := trivial; have n6 := trivial; ?_)
   |
    clear n4
    refine rc (i := 6) (fun K hK => have t6 := trivial; have n6 := trivial; ?_)
   |
    clear n1
    refine I6.rc2 (i := 6) (j := 11) (fun K hK => have t6 := trivial; have n3 := trivial; ?_) (fun K hK => have t11 := trivial; have n4 := trivial; ?_)
   |
    clear n2
    refine rc (i := 3) (fun K hK => have t3 := trivial; have n4 := trivial; ?_)
   |
    clear n0
    refine rt (i := 0) hHeld ?_
    refine rl (i := 1) (v := ?_) hHeld (fun w hSw => ?_) ?_
    rotate_left
    ·(have z0 := hSw.cell y0; have z1 := hSw.cell y1; have z2 := hSw.cell y2; go_simp; try (with_reducible rfl))
    refine rt (i := 2) hHeld ?_
    refine rt (i := 4) hHeld ?_
    refine rl (i := 5) (v := ?_) hHeld (fun w hSw => ?_) ?_
    rotate_left
    ·(have z0 := hSw.cell y3; have z1 := hSw.cell y4; have z2 := hSw.cell y5; go_simp; try (with_reducible rfl))
    refine rt (i := 7) hHeld ?_
    try simp only [Act.put, Ow.zS, Ow.zC, Ow.zD]
    refine I6.rc2 (i := 3) (j := 11) (fun K hK => have t3 := trivial; have n1 := trivial; ?_) (fun K hK => have t11 := trivial; have n2 := trivial; ?_))
  all_goals
   go_wp2_with fail
   go_meet
   exact ⟨_, _, _, _, _, rfl, KF, N1, N4, ⟨hHeld⟩, ⟨le_p⟩⟩
 case rest =>
  obtain ⟨p, A, c, B, d, rfl, KO, D1, D2, BO, PF⟩ := hcut
  have gO := Ho.mk (g0.out.trans BO.out)
  have KR2 := Ho.mk (KR.out.bel BO.out)
  have hp : p ≠ w.heap.size + 1 := by have h1 := KR.out.lt; have h2 := PF.out; omega
  obtain ⟨y0, y1, y2, y3, y4, y5⟩ := KO.out.c6
  go_wp2_with fail
  (with_reducible refine (I1.dWide (a := (f1, f2)) _ (TT.out.bel gO.out) D1.out D2.out (by omega) (by omega)).mono ?_); rintro e w5 ⟨A5, c5, rfl, n5, b5⟩
  go_wp2_with fail
  (with_reducible refine (F1.dShift (TT.out.bel (gO.out.trans b5)) n5 nn 200 (by omega) (by omega) (by omega) (by omega)).mono ?_); rintro e w6 ⟨A6, c6, rfl, n6, b6⟩
  rw [← hnn] at n6
  have KG := Ho.mk (Blk.new w6 [.bool (dneg (shiftD (f2 + -f1) n)), .slice A6 (digs (dm (shiftD (f2 + -f1) n))).length c6, .int .i64 (de (shiftD (f2 + -f1) n))] 37)
  have b7 := ((b5.trans b6).alloc (.cells #[.bool (dneg (shiftD (f2 + -f1) n)), .slice A6 (digs (dm (shiftD (f2 + -f1) n))).length c6, .int .i64 (de (shiftD (f2 + -f1) n))] 37))
  have KO2 := Ho.mk (KO.out.bel b7)
  have KR3 := Ho.mk (KR2.out.bel b7)
  have D1 := Ho.mk (D1.out.bel b7)
  have D2 := Ho.mk (D2.out.bel b7)
  have N6 := Ho.mk (n6.bel ((Bel.refl w6).alloc (.cells #[.bool (dneg (shiftD (f2 + -f1) n)), .slice A6 (digs (dm (shiftD (f2 + -f1) n))).length c6, .int .i64 (de (shiftD (f2 + -f1) n))] 37)))
  have gX := Ho.mk (gO.out.trans b7)
  have hg : w6.heap.size ≠ w.heap.size + 1 := by have h1 := KR3.out.lt; have h2 := KR2.out.lt; have h3 := (b5.trans b6).size; omega
  clear y0 y1 y2 y3 y4 y5 n5 n6 b5 b6 b7 gO KO KR2 KR KB
  subst hnn
  go_upto_region 3 with fail
  generalize w6.alloc (.cells #[.bool (dneg (shiftD (f2 + -f1) n)), .slice A6 (digs (dm (shiftD (f2 + -f1) n))).length c6, .int .i64 (de (shiftD (f2 + -f1) n))] 37) = w7 at *
  generalize w6.heap.size = bg at *
  obtain ⟨r, hr⟩ : ∃ r, cmpI (shiftD (f2 + -f1) n) (2 ^ Dp.K) = r := ⟨_, rfl⟩
  have hr0 : r ≤ 0 := by rw [← hr]; exact HK.out
  have HR := Ho.mk hr
  clear hr
  refine wp_region_held_drew (S := fun w' => Gr (w.heap.size + 1) w7 w') (by kernel_rfl) (Gr.refl _ _).drew (fun hHeld => ?_)
  (try dsimp only at hHeld)
  refine rl (i := 0) (v := ?_) hHeld (fun w hSw => ?_) ?_
  rotate_left
  ·(have KZ := hSw.blk KO2.out hp; have z0 := KZ.cell (i := 0) rfl; have z1 := KZ.cell (i := 1) rfl; have z2 := KZ.cell (i := 2) rfl; have z3 := KZ.cell (i := 3) rfl; have z4 := KZ.cell (i := 4) rfl; have z5 := KZ.cell (i := 5) rfl; go_simp; try (with_reducible rfl))
  refine rl (i := 1) (v := ?_) hHeld (fun w hSw => ?_) ?_
  rotate_left
  ·(have KZ := hSw.blk KG.out hg; have z0 := KZ.cell (i := 0) rfl; have z1 := KZ.cell (i := 1) rfl; have z2 := KZ.cell (i := 2) rfl; go_simp; try (with_reducible rfl))
  try simp only [Act.put, Ow.zS, Ow.zC, Ow.zD]
  refine rc (i := 2) (fun K hK => ?_)
  go_simp
  go_at_call 177
  refine (F0.dOf1 (TT.out.bel gX.out.drew)).mono ?_
  rintro e w8 ⟨A8, c8, rfl, n8, b8⟩
  try go_wp2_with fail
  refine hK.out _ _ (hHeld.trans (b8.gr _)) (fun hHeld => ?_)
  clear hK K
  try simp only [Act.put, Ow.zS, Ow.zC, Ow.zD]
  refine rc (i := 3) (fun K hK => ?_)
  go_simp
  go_at_call 176
  refine (F1.dCmp (TT.out.bel (gX.out.drew.trans b8)) (N6.out.bel ((Bel.refl w7).drew.trans b8)) n8 (by omega) (by omega) HR.out).mono ?_
  rintro e w9 ⟨rfl, b9⟩
  try go_wp2_with fail
  refine hK.out _ _ (hHeld.trans (b9.gr _)) (fun hHeld => ?_)
  clear hK K
  refine rt (i := 4) hHeld ?_
  have bz := ((Bel.refl w7).drew.trans b8).trans b9
  have KR4 := Ho.mk (KR3.out.bel bz)
  have gz := Ho.mk (gX.out.trans bz)
  have D3 := Ho.mk (D1.out.bel bz)
  have D4 := Ho.mk (D2.out.bel bz)
  clear n8 b8 b9 bz
  obtain ⟨y0, y1, y2, y3, y4, y5⟩ := KR4.out.c6
  have z0 := KR4.out.free 0
  have z1 := KR4.out.free 1
  have z2 := KR4.out.free 2
  have z3 := KR4.out.free 3
  have z4 := KR4.out.free 4
  have z5 := KR4.out.free 5
  try simp only [Act.put, Ow.zS, Ow.zC, Ow.zD]
  refine rc (i := 5) (fun K hK => ?_)
  go_simp
  refine hK.out _ _ ((((((hHeld.set 0 _).set 1 _).set 2 _).set 3 _).set 4 _).set 5 _) (fun hHeld => ?_)
  clear hK K
  refine rt (i := 6) hHeld ?_
  try simp only [Act.put, Ow.zS, Ow.zC, Ow.zD]
  refine wpAnyH_done (by kernel_rfl) ?_ _
  go_wp2
  exact I0.gives_endIB (fn := Tryz.f160) (i := (f1, f2)) (ok := true) rfl rfl rfl gz.out (by omega) KR4.out D3.out D4.out
end C8
end Go.Proofs.YtalbgklfhabnkaaGreatDoor
