/-
  Joined, of what this claim leans on: C6, U2, C7, C8, C9, S1, S2, S3, S4, S5, S6, P0.
-/
import Derived.RangeFuncLeaves
import Derived.Deep.RegionHeld3
import Derived.Deep.DrawnRows
import Derived.BigQuiet
import Derived.ChangeKeysEq
import Derived.Deep.Cut
import Derived.WalkMore
import Derived.Maps.OwnSet
import Derived.Maps.OwnOps
import Derived.DeepKeys4
import Derived.OwnWalk
import Derived.Test.YtnbdoidccacdnaaGreatDoorJRfftScale4
set_option linter.unusedVariables false
set_option linter.unusedSimpArgs false
set_option maxRecDepth 100000
set_option maxHeartbeats 16000000
namespace Go.Proofs.YtnbdoidccacdnaaGreatDoor
namespace C6
open Go Go.RowKit Go.Proofs Go.Proofs.YtnbdoidccacdnaaGreatDoor Ow Pl Dp Dt D3 F1 T0 I0 I4 V2 T1
open Go.Proofs.YtnbdoidccacdnaaGreatDoor.V1 (NI St ni_same ni_loop St.refl St.of_bel rd_keep dv_keep blk_keep ni_blk put_st)
open C0 C1 C3 C5
attribute [local go_sem ↓] Go.wp_at_zero Go.wp_at_succ
attribute [local go_sem] Oper.semAt_some
theorem dHalves {wi : Int} (w : World) :
  Calls Tryz.prog 230 #[.int .i64 wi] w
   (fun e w' => e = .returned (.func (.func 242) #[] #[.pointer (some ⟨w.heap.size, 0, none⟩)]) ∧ w' = w.alloc (.cells #[.int .i64 wi] 3)) := by
 go_enter Tryz.func230, Tryz.ntmps230
 go_wp2
 refine bodyPost_ret (results_tmp rfl _ _ _) rfl ?_
 simp
theorem leaveAny {fn : Func} {R : Ending → World → Prop} {tmps : Array Value} {w : World} {k n : Nat} (hd : w.heap[k]? = some (.deferred (some []))) (E : bodyPost Tryz.prog fn R .ret { tmps := tmps, defers := [] } (w.putObj k (.deferred none))) :
  bodyPostM Fence.wide n Tryz.prog fn R .ret { tmps := tmps, defers := [{ target := .collected k, args := #[] }] } w := by
 obtain ⟨_, v, hr, hR⟩ := E
 exact ⟨(fun h => by cases h), .inl ⟨k, _, rfl, run_takeDeferred hd, ⟨v, hr, hR⟩⟩⟩
theorem put_set12 {w : World} {k b : Nat} {o : Obj} (h : b ≠ k) (v0 v1 v2 v3 v4 v5 v6 v7 v8 v9 va vb : Value) : (set12 w b v0 v1 v2 v3 v4 v5 v6 v7 v8 v9 va vb).putObj k o = set12 (w.putObj k o) b v0 v1 v2 v3 v4 v5 v6 v7 v8 v9 va vb := by
 unfold set12
 iterate 12 rw [J3.put_set h]
theorem leaveP {fn : Func} {t : Tmp} {tmps : Array Value} {w w2 : World} {p : Pt} {bl a b c d L U k n : Nat} {A B C D : Option Addr} (hf : fn.results = #[.cell t 208]) (hp : tmps.getD t undef = .pointer (some ⟨bl, 0, none⟩)) (hB : Bel w w2) (hb : w.heap.size ≤ bl)
  (K : Blk w2 bl 208 [.bool false, .slice none 0 0, .int .i64 0, .bool false, .slice none 0 0, .int .i64 0, .bool false, .slice none 0 0, .int .i64 0, .bool false, .slice none 0 0, .int .i64 0]) (h1 : Dv w2 A a p.1.1 L U) (h2 : Dv w2 B b p.1.2 L U) (h3 : Dv w2 C c p.2.1 L U) (h4 : Dv w2 D d p.2.2 L U) (hd : w2.heap[k]? = some (.deferred (some []))) (hk : w.heap.size ≤ k) :
  bodyPostM Fence.wide n Tryz.prog fn (MakesP w p L U) .ret { tmps := tmps, defers := [{ target := .collected k, args := #[] }] }
   (set12 w2 bl (.bool (dneg p.1.1)) (.slice A (digs (dm p.1.1)).length a) (.int .i64 (de p.1.1)) (.bool (dneg p.1.2)) (.slice B (digs (dm p.1.2)).length b) (.int .i64 (de p.1.2)) (.bool (dneg p.2.1)) (.slice C (digs (dm p.2.1)).length c) (.int .i64 (de p.2.1)) (.bool (dneg p.2.2)) (.slice D (digs (dm p.2.2)).length d) (.int .i64 (de p.2.2))) := by
 have hbk : bl ≠ k := by rintro rfl; have := K.out; rw [hd] at this; simp at this
 have nk : NI w2 k := fun ad e z hc => by unfold World.cell? at hc; rw [e, hd] at hc; simp at hc
 have st : ∀ j, j < w2.heap.size → (w2.putObj k (.deferred none)).heap[j]? = w2.heap[j]? ∨ NI w2 j := fun j hj => by
  by_cases e : j = k
  ·subst e; exact .inr nk
  ·exact .inl (World.putObj_heap_other e)
 refine leaveAny ?_ ?_
 ·rw [set12_other (Ne.symm hbk)]; exact hd
 ·rw [put_set12 hbk]
  have KB := blk_keep (v := w2.putObj k (.deferred none)) K (World.putObj_heap_other hbk)
  exact gives_endP hf hp ⟨⟨hB.out.os, hB.out.tape, hB.out.output, by have := hB.size; simpa using this, fun j hj => (World.putObj_heap_other (by omega)).trans (hB.out.block j hj)⟩⟩ hb KB (ni_zero KB) (dv_keep h1 st) (dv_keep h2 st) (dv_keep h3 st) (dv_keep h4 st)
structure IR (W0 : World) (S b5 : Nat) (ki Qi wi : Int) (k Q w m j : Nat) (O : List Nat) (W : World) : Prop where
 bel : Bel W0 W
 big : b5 + 3 ≤ W.heap.size
 own : ∀ q ∈ O, b5 + 3 ≤ q
 top : ∀ q ∈ O, q < W.heap.size
 kt : Blk W S 79 [.int .i64 ki, .int .i64 Qi]
 kw : Blk W (S + 1) 3 [.int .i64 wi]
 res : Blk W (S + 1 + 1) 208 [.bool false, .slice none 0 0, .int .i64 0, .bool false, .slice none 0 0, .int .i64 0, .bool false, .slice none 0 0, .int .i64 0, .bool false, .slice none 0 0, .int .i64 0]
 kq : Blk W (b5 + 1) 3 [.int .i64 (3 + m : Nat)]
 pt : ∃ x : Pc, Blk W b5 208 x.cells ∧ x.Dv W ∧ x.p = restP k Q w j
theorem ir_abides {W0 : World} {S b5 : Nat} {ki Qi wi : Int} {k Q w m j : Nat} (h0 : W0.heap.size ≤ S) (h1 : S + 3 ≤ b5) : V1.Abides fun O W => IR W0 S b5 ki Qi wi k Q w m j O W := by
 rintro O A O' B h hs h2 h3
 have same : ∀ q, q < A.heap.size → q ∉ O → B.heap[q]? = A.heap[q]? := fun q hq hn => (hs.block q hq).elim id (fun z => (hn z.1).elim)
 have low : ∀ q, q < b5 + 3 → q ∉ O := fun q hq z => by have := h.own q z; omega
 have hb := h.big
 have sz := hs.size
 obtain ⟨x, hx1, hx2, hx3⟩ := h.pt
 exact ⟨⟨⟨hs.os.trans h.bel.out.os, hs.tape.trans h.bel.out.tape, hs.output.trans h.bel.out.output, Nat.le_trans h.bel.size sz, fun q hq => (same q (Nat.lt_of_lt_of_le hq h.bel.size) (low q (by omega))).trans (h.bel.out.block q hq)⟩⟩, by omega,
  fun q hq => (h3 q hq).elim (h.own q) (fun z => by omega), fun q hq => (h3 q hq).elim (fun z => Nat.lt_of_lt_of_le (h.top q z) sz) (fun z => z.2),
  blk_keep h.kt (same _ (by omega) (low _ (by omega))), blk_keep h.kw (same _ (by omega) (low _ (by omega))), blk_keep h.res (same _ (by omega) (low _ (by omega))), blk_keep h.kq (same _ (by omega) (low _ (by omega))),
  x, blk_keep hx1 (same _ (by omega) (low _ (by omega))), hx2.keep (fun q hq => (hs.block q hq).imp id (·.2)), hx3⟩
theorem ir_eq {W0 W : World} {S b5 : Nat} {ki Qi wi : Int} {k Q w m j j' : Nat} {O : List Nat} (e : restP k Q w j = restP k Q w j') (h : IR W0 S b5 ki Qi wi k Q w m j O W) : IR W0 S b5 ki Qi wi k Q w m j' O W :=
 ⟨h.bel, h.big, h.own, h.top, h.kt, h.kw, h.res, h.kq, by rw [← e]; exact h.pt⟩
theorem ir_turn {W0 W w' : World} {S b5 : Nat} {ki Qi wi : Int} {k Q w m j j' : Nat} {O : List Nat} (h0 : W0.heap.size ≤ S) (h1 : S + 3 ≤ b5) (h : IR W0 S b5 ki Qi wi k Q w m j O W) (hok : OkP (restP k Q w j)) (hb : Bel W w') {x' : Pc} (M : x'.Dv w') (hp : x'.p = restP k Q w j')
  {v0 v1 v2 v3 v4 v5 v6 v7 v8 v9 va vb : Value} (hc : x'.cells = [v0, v1, v2, v3, v4, v5, v6, v7, v8, v9, va, vb]) :
  IR W0 S b5 ki Qi wi k Q w m j' O (set12 w' b5 v0 v1 v2 v3 v4 v5 v6 v7 v8 v9 va vb) ∧ Yd [b5, b5 + 1] O (b5 + 5) W (set12 w' b5 v0 v1 v2 v3 v4 v5 v6 v7 v8 v9 va vb) := by
 obtain ⟨x, hx1, hx2, hx3⟩ := h.pt
 rw [← hx3] at hok
 have hN := ni_pc hx1 hok
 have hN' := ni_pc (hx1.bel hb) hok
 obtain ⟨u0, u1, u2, u3, u4, u5, u6, u7, u8, u9, ua, ub, hx⟩ : ∃ u0 u1 u2 u3 u4 u5 u6 u7 u8 u9 ua ub, x.cells = [u0, u1, u2, u3, u4, u5, u6, u7, u8, u9, ua, ub] := ⟨_, _, _, _, _, _, _, _, _, _, _, _, rfl⟩
 have KZ := hx1.bel hb
 rw [hx] at KZ
 have KF := blk_set12 KZ v0 v1 v2 v3 v4 v5 v6 v7 v8 v9 va vb
 rw [← hc] at KF
 have hoth : ∀ q, q ≠ b5 → (set12 w' b5 v0 v1 v2 v3 v4 v5 v6 v7 v8 v9 va vb).heap[q]? = w'.heap[q]? := fun q hne => set12_other hne _ _ _ _ _ _ _ _ _ _ _ _
 have hsz : (set12 w' b5 v0 v1 v2 v3 v4 v5 v6 v7 v8 v9 va vb).heap.size = w'.heap.size := set12_size _ _ _ _ _ _ _ _ _ _ _ _
 obtain ⟨e1, e2, e3⟩ := set12_fr w' b5 v0 v1 v2 v3 v4 v5 v6 v7 v8 v9 va vb
 obtain ⟨wf, hwf⟩ : ∃ wf, set12 w' b5 v0 v1 v2 v3 v4 v5 v6 v7 v8 v9 va vb = wf := ⟨_, rfl⟩
 rw [hwf] at KF hoth hsz e1 e2 e3 ⊢
 have DF : x'.Dv wf := M.keep fun q hq => by
  by_cases e : q = b5
  ·subst e; exact .inr hN'
  ·exact .inl (hoth q e)
 have hbig := h.big
 have hws := h.bel.size
 have same : ∀ q, q < W.heap.size → q ≠ b5 → wf.heap[q]? = W.heap[q]? := fun q hq hne => (hoth q hne).trans (hb.out.block q hq)
 have sz : W.heap.size ≤ wf.heap.size := by rw [hsz]; exact hb.size
 refine ⟨⟨⟨⟨e1.trans (hb.out.os.trans h.bel.out.os), e2.trans (hb.out.tape.trans h.bel.out.tape), e3.trans (hb.out.output.trans h.bel.out.output), by omega, fun q hq => (same q (by omega) (by omega)).trans (h.bel.out.block q hq)⟩⟩, by omega, h.own, fun q hq => Nat.lt_of_lt_of_le (h.top q hq) sz,
  blk_keep h.kt (same _ h.kt.lt (by omega)), blk_keep h.kw (same _ h.kw.lt (by omega)), blk_keep h.res (same _ h.res.lt (by omega)), blk_keep h.kq (same _ h.kq.lt (by omega)), x', KF, DF, hp⟩,
  ⟨e1.trans hb.out.os, e2.trans hb.out.tape, e3.trans hb.out.output, sz, fun q hq => ?_⟩⟩
 by_cases e : q = b5
 ·subst e; exact .inr ⟨.inl hN, fun z => by have := h.own _ z; omega, .inl (by simp)⟩
 ·exact .inl (same q hq e)
structure KyP (p : Pt) : Prop where
 cl : KyV p.1.1
 ch : KyV p.1.2
 sl : KyV p.2.1
 sh : KyV p.2.2
theorem one_ky : KyV (2 ^ K) := by
 right
 have e := one_e
 have : (E3.mk false 1 0).nf = true := by decide
 have h := (nf_parts this).2.1
 rw [e] at h; exact h
theorem rest_ky {k Q w n : Nat} (h : ∀ j, j < n → k / 2 ^ (Q - (3 + j)) % 2 = 1 → LgP (restP k Q w (j + 1))) : ∀ j, j ≤ n → KyP (restP k Q w j)
 | 0, _ => ⟨one_ky, one_ky, .inl (.inl rfl), .inl (.inl rfl)⟩
 | j + 1, hj => by
  by_cases hb : k / 2 ^ (Q - (3 + j)) % 2 = 1
  ·have l := h j (by omega) hb
   exact ⟨.inl l.cl, .inl l.ch, .inl l.sl, .inl l.sh⟩
  ·have e : restP k Q w (j + 1) = restP k Q w j := by
    show (if k / 2 ^ (Q - (3 + j)) % 2 = 1 then turned (restP k Q w j) (halvesP w j) w else restP k Q w j) = _
    rw [if_neg hb]
   rw [e]; exact rest_ky h j (by omega)
theorem ir_next {W0 W : World} {S b5 : Nat} {ki Qi wi z : Int} {k Q w m j : Nat} {O : List Nat} (h0 : W0.heap.size ≤ S) (h1 : S + 3 ≤ b5) (h : IR W0 S b5 ki Qi wi k Q w m j O W) (hky : KyP (restP k Q w j)) (hz : z = ((3 + (m + 1) : Nat) : Int)) :
  IR W0 S b5 ki Qi wi k Q w (m + 1) j O (W.setCell ⟨b5 + 1, 0, none⟩ (.int .i64 z)) ∧ Yd [b5, b5 + 1] O (b5 + 5) W (W.setCell ⟨b5 + 1, 0, none⟩ (.int .i64 z)) := by
 subst hz
 obtain ⟨x, hx1, hx2, hx3⟩ := h.pt
 have KF := h.kq.set 0 (.int .i64 ((3 + (m + 1) : Nat) : Int))
 have hoth : ∀ q, q ≠ b5 + 1 → (W.setCell ⟨b5 + 1, 0, none⟩ (.int .i64 ((3 + (m + 1) : Nat) : Int))).heap[q]? = W.heap[q]? := fun q hne => Below.heap_setCell _ _ _ _ (by first | exact hne | exact Ne.symm hne)
 have hsz : (W.setCell ⟨b5 + 1, 0, none⟩ (.int .i64 ((3 + (m + 1) : Nat) : Int))).heap.size = W.heap.size := by simp [World.setCell]
 obtain ⟨wf, hwf⟩ : ∃ wf, W.setCell ⟨b5 + 1, 0, none⟩ (.int .i64 ((3 + (m + 1) : Nat) : Int)) = wf := ⟨_, rfl⟩
 have e1 : wf.os = W.os := by rw [← hwf]; rfl
 have e2 : wf.tape = W.tape := by rw [← hwf]; rfl
 have e3 : wf.output = W.output := by rw [← hwf]; rfl
 rw [hwf] at KF hoth hsz ⊢
 have hne1 : (((3 + m : Nat) : Int)) ≠ 1 := by omega
 have hs : ∀ q, q < W.heap.size → q ≠ b5 + 1 → wf.heap[q]? = W.heap[q]? := fun q _ hne => hoth q hne
 rw [← hx3] at hky
 have DF : x.Dv wf := ⟨dv_keepQ hx2.k1 hky.cl h.kq hne1 hs, dv_keepQ hx2.k2 hky.ch h.kq hne1 hs, dv_keepQ hx2.k3 hky.sl h.kq hne1 hs, dv_keepQ hx2.k4 hky.sh h.kq hne1 hs⟩
 have hbig := h.big
 have hws := h.bel.size
 refine ⟨⟨⟨⟨e1.trans h.bel.out.os, e2.trans h.bel.out.tape, e3.trans h.bel.out.output, by omega, fun q hq => (hoth q (by omega)).trans (h.bel.out.block q hq)⟩⟩, by omega, h.own, fun q hq => by have := h.top q hq; omega,
  blk_keep h.kt (hoth _ (by omega)), blk_keep h.kw (hoth _ (by omega)), blk_keep h.res (hoth _ (by omega)), KF, x, blk_keep hx1 (hoth _ (by omega)), DF, hx3⟩, ⟨e1, e2, e3, by omega, fun q hq => ?_⟩⟩
 by_cases e : q = b5 + 1
 ·subst e; exact .inr ⟨.inr (oneInt_blk h.kq), fun z => by have := h.own _ z; omega, .inl (by simp)⟩
 ·exact .inl (hoth q e)
structure RestOk (k Q w : Nat) : Prop where
 hp : ∀ j, j < Q - 2 + 1 → HvP w j
 rp : ∀ j, j ≤ Q - 2 → OkP (restP k Q w j)
 rg : ∀ j, j < Q - 2 → k / 2 ^ (Q - (3 + j)) % 2 = 1 → LgP (restP k Q w (j + 1))
theorem rest_ok {Q k cw sw : Nat} (h : Entry Q k cw sw) : RestOk k Q (150 + 2 * Q) := ⟨h.hp, h.rp, h.rg⟩
theorem one_sgn : 0 ≤ sgn (ishift T0.one (-1)).1 := by
 have e : ishift T0.one (-1) = vi (xshift xone (-1)) := by rw [xshift_v, xone_v]
 rw [e]
 exact sg_v (by decide +kernel)
theorem dRest {k Q w : Nat} {ki Qi wi : Int} (W0 : World) (T : Tab W0) (hk : (k : Int) = ki) (hQ : (Q : Int) = Qi) (hw : w ≤ 3000) (hwi : (w : Int) = wi) (hQ9 : Q ≤ 9) (hk9 : k < 64) (EN : RestOk k Q w) (hQ3 : Q = 0 ∨ 3 ≤ Q) :
  Calls Tryz.prog 211 #[.agg #[.int .i64 ki, .int .i64 Qi], .int .i64 wi] W0 (MakesP W0 (restP k Q w (Q - 2)) 400 3) := by
 have TT := Ho.mk T
 have HE := Ho.mk EN
 have HQ3 := Ho.mk hQ3
 have HW := Ho.mk hw
 clear T EN hQ3 hw
 refine (callsIn_wide (n := 3)).1 ?_
 refine callsIn_of_wp_marks Tryz.func211 rfl trivial ?_ rfl
 simp only [Tryz.ntmps211, List.size_toArray, List.length_cons, List.length_nil, Nat.reduceAdd, Nat.reduceSub, Array.replicate_succ, Array.replicate_zero, List.push_toArray, List.append_toArray, List.nil_append, List.cons_append]
 gi_wp2_with fail
 have KT := Ho.mk (((Blk.new W0 [.int .i64 ki, .int .i64 Qi] 79).old (.cells #[.int .i64 wi] 3)).old (.cells #[.bool false, .slice none 0 0, .int .i64 0, .bool false, .slice none 0 0, .int .i64 0, .bool false, .slice none 0 0, .int .i64 0, .bool false, .slice none 0 0, .int .i64 0] 208))
 have KW := Ho.mk ((Blk.new (W0.alloc (.cells #[.int .i64 ki, .int .i64 Qi] 79)) [.int .i64 wi] 3).old (.cells #[.bool false, .slice none 0 0, .int .i64 0, .bool false, .slice none 0 0, .int .i64 0, .bool false, .slice none 0 0, .int .i64 0, .bool false, .slice none 0 0, .int .i64 0] 208))
 rw [World.size_alloc] at KW
 have KR := Ho.mk (Blk.new ((W0.alloc (.cells #[.int .i64 ki, .int .i64 Qi] 79)).alloc (.cells #[.int .i64 wi] 3)) [.bool false, .slice none 0 0, .int .i64 0, .bool false, .slice none 0 0, .int .i64 0, .bool false, .slice none 0 0, .int .i64 0, .bool false, .slice none 0 0, .int .i64 0] 208)
 rw [World.size_alloc, World.size_alloc] at KR
 have g0 := Ho.mk ((((Bel.refl W0).alloc (.cells #[.int .i64 ki, .int .i64 Qi] 79)).alloc (.cells #[.int .i64 wi] 3)).alloc (.cells #[.bool false, .slice none 0 0, .int .i64 0, .bool false, .slice none 0 0, .int .i64 0, .bool false, .slice none 0 0, .int .i64 0, .bool false, .slice none 0 0, .int .i64 0] 208))
 have hS : (((W0.alloc (.cells #[.int .i64 ki, .int .i64 Qi] 79)).alloc (.cells #[.int .i64 wi] 3)).alloc (.cells #[.bool false, .slice none 0 0, .int .i64 0, .bool false, .slice none 0 0, .int .i64 0, .bool false, .slice none 0 0, .int .i64 0, .bool false, .slice none 0 0, .int .i64 0] 208)).heap.size = W0.heap.size + 1 + 1 + 1 := by simp only [World.size_alloc]
 generalize (((W0.alloc (.cells #[.int .i64 ki, .int .i64 Qi] 79)).alloc (.cells #[.int .i64 wi] 3)).alloc (.cells #[.bool false, .slice none 0 0, .int .i64 0, .bool false, .slice none 0 0, .int .i64 0, .bool false, .slice none 0 0, .int .i64 0, .bool false, .slice none 0 0, .int .i64 0] 208)) = W at *
 refine ⟨trivial, (callsIn_wide.2 (dOne _ (TT.out.bel g0.out))).mono ?_⟩
 rintro e w1 ⟨A1, c1, B1, d1, rfl, n1, m1, b1⟩
 have b1w : W.heap.size ≤ w1.heap.size := b1.size
 have y0 := fun o o' => (KW.out.bel ((b1.alloc o).alloc o')).cell (i := 0) rfl
 gi_wp2_with fail
 clear y0
 refine ⟨trivial, (callsIn_wide.2 (dHalves _)).mono ?_⟩
 rintro e w5 ⟨rfl, hw5⟩
 simp only [World.size_alloc] at *
 have HB : Ho (Bel W0 w5) := ⟨by rw [hw5]; exact g0.out.trans (((b1.alloc _).alloc _).alloc _)⟩
 have HSz : Ho (w5.heap.size = w1.heap.size + 3) := ⟨by rw [hw5]; simp only [World.size_alloc]⟩
 have BX : Ho (Bel W w5) := ⟨by rw [hw5]; exact ((b1.alloc _).alloc _).alloc _⟩
 have BW1 : Ho (Bel w1 w5) := ⟨by rw [hw5]; exact (((Bel.refl w1).alloc _).alloc _).alloc _⟩
 have KP : Ho (Blk w5 w1.heap.size 208 [.bool (dneg T0.one.1), .slice A1 (digs (dm T0.one.1)).length c1, .int .i64 (de T0.one.1), .bool (dneg T0.one.2), .slice B1 (digs (dm T0.one.2)).length d1, .int .i64 (de T0.one.2), .bool false, .slice none 0 0, .int .i64 0, .bool false, .slice none 0 0, .int .i64 0]) := ⟨by
  rw [hw5]; exact ((Blk.new w1 [.bool (dneg T0.one.1), .slice A1 (digs (dm T0.one.1)).length c1, .int .i64 (de T0.one.1), .bool (dneg T0.one.2), .slice B1 (digs (dm T0.one.2)).length d1, .int .i64 (de T0.one.2), .bool false, .slice none 0 0, .int .i64 0, .bool false, .slice none 0 0, .int .i64 0] 208).old _).old _⟩
 have KQ : Ho (Blk w5 (w1.heap.size + 1) 3 [.int .i64 3]) := ⟨by
  rw [hw5]
  have h := (Blk.new (w1.alloc (.cells #[.bool (dneg T0.one.1), .slice A1 (digs (dm T0.one.1)).length c1, .int .i64 (de T0.one.1), .bool (dneg T0.one.2), .slice B1 (digs (dm T0.one.2)).length d1, .int .i64 (de T0.one.2), .bool false, .slice none 0 0, .int .i64 0, .bool false, .slice none 0 0, .int .i64 0] 208)) [.int .i64 3] 3).old (.cells #[.int .i64 wi] 3)
  simpa only [World.size_alloc] using h⟩
 have KV : Ho (Blk w5 (w1.heap.size + 1 + 1) 3 [.int .i64 wi]) := ⟨by
  rw [hw5]
  have h := Blk.new ((w1.alloc (.cells #[.bool (dneg T0.one.1), .slice A1 (digs (dm T0.one.1)).length c1, .int .i64 (de T0.one.1), .bool (dneg T0.one.2), .slice B1 (digs (dm T0.one.2)).length d1, .int .i64 (de T0.one.2), .bool false, .slice none 0 0, .int .i64 0, .bool false, .slice none 0 0, .int .i64 0] 208)).alloc (.cells #[.int .i64 3] 3)) [.int .i64 wi] 3
  simpa only [World.size_alloc] using h⟩
 have KT := Ho.mk (KT.out.bel BX.out)
 have KW := Ho.mk (KW.out.bel BX.out)
 have KR := Ho.mk (KR.out.bel BX.out)
 have N1 := Ho.mk (n1.bel BW1.out)
 have M1 := Ho.mk (m1.bel BW1.out)
 clear hw5 b1 n1 m1 g0 BX BW1
 have hb0 : W0.heap.size + 3 ≤ w1.heap.size := by omega
 clear hS b1w
 generalize w1.heap.size = b5 at *
 gi_wp2_with fail
 obtain ⟨V8, hV8⟩ : ∃ V8, V8 = Value.agg #[.bool (dneg T0.one.1), .slice A1 (digs (dm T0.one.1)).length c1, .int .i64 (de T0.one.1), .bool (dneg T0.one.2), .slice B1 (digs (dm T0.one.2)).length d1, .int .i64 (de T0.one.2)] := ⟨_, rfl⟩
 obtain ⟨V9, hV9⟩ : ∃ V9, V9 = Value.agg #[.bool (dneg T0.one.1), .slice A1 (digs (dm T0.one.1)).length c1, .int .i64 (de T0.one.1), .bool (dneg T0.one.2), .slice B1 (digs (dm T0.one.2)).length d1, .int .i64 (de T0.one.2), .bool false, .slice none 0 0, .int .i64 0, .bool false, .slice none 0 0, .int .i64 0] := ⟨_, rfl⟩
 rw [← hV8, ← hV9]
 have HN : Q - 2 ≤ 7 := by omega
 have hI0 : IR W0 W0.heap.size b5 ki Qi wi k Q w 0 0 [] w5 := ⟨HB.out, by have := HSz.out; omega, by simp, by simp, KT.out, KW.out, KR.out, KQ.out,
  ⟨A1, c1, B1, d1, none, 0, none, 0, (T0.one, (0, 0))⟩, by have h := KP.out; simpa [Pc.cells, show dm 0 = 0 from odd_zero, digs_zero, de_zero, show dneg 0 = false from rfl] using h, ⟨I0.Dv.wid N1.out (HE.out.rp 0 (Nat.zero_le _)).cl.wd, I0.Dv.wid M1.out (HE.out.rp 0 (Nat.zero_le _)).ch.wd, (Dv.zero _ 0).mono (by omega) (by omega), (Dv.zero _ 0).mono (by omega) (by omega)⟩, rfl⟩
 have HI0 := Ho.mk hI0
 clear hV8 hV9 hI0 KT KW KR KQ KP N1 M1
 have hb2 : 2 < W0.heap.size := I4.Tab.lt TT.out
 refine rangeB (α := Pc) (encs := Pc.enc) (bs := [b5, b5 + 1]) (N := Q - 2 + 1) (Px := fun pre x W1 => x.p = halvesP w pre.length ∧ x.Dv W1) (S := fun _ => False) (Sp := fun _ => True) (Bd := True)
  (by omega) rfl (fun args w => by rfl) (fun x => by rfl) (by intro q hq; have := HSz.out; simp at hq; omega) ?_
  (fun pre O W => IR W0 W0.heap.size b5 ki Qi wi k Q w pre.length pre.length O W ∧ pre.length ≤ Q - 2)
  (fun c pre O W => c = .exit 0 ∧ IR W0 W0.heap.size b5 ki Qi wi k Q w (Q - 2) (Q - 2) O W)
  (fun _ pre O W h => by have := h.2; omega)
  (fun s O A O' B h hs h1 h2 => ⟨ir_abides (Nat.le_refl _) hb0 O A O' B h.1 hs h1 h2, h.2⟩)
  (fun c s O A O' B h hs h1 h2 => ⟨h.1, ir_abides (Nat.le_refl _) hb0 O A O' B h.2 hs h1 h2⟩)
  ⟨HI0.out, Nat.zero_le _⟩
  (fun pre x a' W => ∃ kb, a' = { tmps := #[.agg #[.int .i64 ki, .int .i64 Qi], .int .i64 wi, .pointer (some ⟨W0.heap.size, 0, none⟩), .pointer (some ⟨W0.heap.size + 1, 0, none⟩), .pointer (some ⟨W0.heap.size + 1 + 1, 0, none⟩), .pointer (some ⟨b5, 0, none⟩), .pointer (some ⟨b5 + 1, 0, none⟩), .pointer (some ⟨kb, 0, none⟩), V8, V9, .int .i64 wi,
   .func (.func 242) #[] #[.pointer (some ⟨b5 + 1 + 1, 0, none⟩)], .agg #[.bool (dneg x.p.1.1), .slice x.A (digs (dm x.p.1.1)).length x.a, .int .i64 (de x.p.1.1), .bool (dneg x.p.1.2), .slice x.B (digs (dm x.p.1.2)).length x.b, .int .i64 (de x.p.1.2), .bool (dneg x.p.2.1), .slice x.C (digs (dm x.p.2.1)).length x.c, .int .i64 (de x.p.2.1), .bool (dneg x.p.2.2), .slice x.D (digs (dm x.p.2.2)).length x.d, .int .i64 (de x.p.2.2)], undef, undef, undef, undef, undef, undef, undef, undef, undef, undef, undef, undef, undef, undef, undef, undef, undef, undef, undef, undef], defers := [] } ∧ Blk W kb 208 x.cells ∧ x.p = halvesP w pre.length ∧ x.Dv W)
  ?_ ?_ ?_ ?_ ?_
 ·-- the iterator's promise
  intro W' hW hBW
  have hs := HSz.out
  have BW := HB.out.trans hBW
  have hq1 : b5 + 1 + 1 ∉ [b5, b5 + 1] ++ [w5.heap.size + 1] := by rw [hs]; simp; omega
  have hq2 : 2 ∉ [b5, b5 + 1] ++ [w5.heap.size + 1] := by rw [hs]; simp; omega
  exact halves1 2 _ (by omega) W' (TT.out.bel BW) (KV.out.bel hBW) HW.out hwi hq1 hq2 (by omega) HE.out.hp one_sgn
 ·-- the loop's record
  rintro pre x a' A r o hr ⟨kb, h1, h2, h3, h4⟩
  refine ⟨kb, h1, blk_keep h2 (World.putObj_heap_other ?_), h3, h4.keep fun i hi => ?_⟩
  ·rintro rfl
   have := h2.out
   rw [hr] at this; simp at this
  ·by_cases e : i = w5.heap.size + 1
   ·subst e; exact .inr (ni_loop hr)
   ·exact .inl (World.putObj_heap_other e)
 ·-- the loop's variable
  rintro l pre O x W K ⟨hI, _⟩ hsz ⟨hx1, hx2⟩ hK
  have HX := Ho.mk hx1
  clear hx1
  simp [Pc.enc]
  gi_wp2
  exact hK _ _ ((Bel.refl W).alloc _) ⟨W.heap.size, rfl, Blk.new W [.bool (dneg x.p.1.1), .slice x.A (digs (dm x.p.1.1)).length x.a, .int .i64 (de x.p.1.1), .bool (dneg x.p.1.2), .slice x.B (digs (dm x.p.1.2)).length x.b, .int .i64 (de x.p.1.2), .bool (dneg x.p.2.1), .slice x.C (digs (dm x.p.2.1)).length x.c, .int .i64 (de x.p.2.1), .bool (dneg x.p.2.2), .slice x.D (digs (dm x.p.2.2)).length x.d, .int .i64 (de x.p.2.2)] 208, HX.out, hx2.bel ((Bel.refl W).alloc _)⟩
 ·-- a round
  rintro l pre O x a' W ⟨hI, hl⟩ hlen hsz ⟨kb, rfl, hkb, hx1, hx2⟩ hO hlO
  have HX := Ho.mk hx1
  have HI := Ho.mk hI
  have H2 := Ho.mk hx2
  have HL := Ho.mk hl
  have hkb' := hkb
  unfold Pc.cells at hkb'
  clear hx1 hx2 hl
  have q0 := hI.kq.cell (i := 0) rfl
  have t0 := hI.kt.cell (i := 0) rfl
  have t1 := hI.kt.cell (i := 1) rfl
  have w0 := hI.kw.cell (i := 0) rfl
  clear hI hkb
  obtain ⟨zi, hzi⟩ : ∃ zi : Int, zi = ((3 + pre.length : Nat) : Int) := ⟨_, rfl⟩
  rw [← hzi] at q0
  have hz0 : 3 ≤ zi := by omega
  have hz1 : zi ≤ 10 := by have := HL.out; omega
  have HZ := Ho.mk hzi
  clear hzi
  by_cases hq : Qi < zi
  ·have hqq : (pre.length : Nat) = Q - 2 := by have := HL.out; have := HZ.out; omega
   have HQQ := Ho.mk hqq
   clear hqq hkb'
   gi_wp2
   refine ⟨Yd.of_bel (Bel.refl _) _ _ _, rfl, ?_⟩
   rw [← HQQ.out]; exact HI.out
  ·have hQ2 : zi ≤ Qi := by omega
   have hqlt : pre.length < Q - 2 := by have := HZ.out; omega
   have HQL := Ho.mk hqlt
   have hsh : ki / 2 ^ (Qi - zi).toNat = ((k / 2 ^ (Q - (3 + pre.length)) : Nat) : Int) := by
    have h1 := HZ.out
    rw [← hk, show (Qi - zi).toNat = Q - (3 + pre.length) by omega]; simp
   have hbit : bits .and .i64 (ki / 2 ^ (Qi - zi).toNat) 1 = ((k / 2 ^ (Q - (3 + pre.length)) % 2 : Nat) : Int) := by
    rw [hsh]
    exact U1.and_one _ (Nat.lt_of_le_of_lt (Nat.div_le_self _ _) (by omega))
   clear hsh hqlt
   by_cases hb : k / 2 ^ (Q - (3 + pre.length)) % 2 = 1
   ·rw [hb] at hbit
    obtain ⟨y, hy1, hy2, hy3⟩ := HI.out.pt
    have HY1 := Ho.mk hy1
    have HY2 := Ho.mk hy2
    have HY3 := Ho.mk hy3
    have hy1' := hy1
    unfold Pc.cells at hy1'
    clear hy1 hy2 hy3
    have y0 := hy1'.cell (i := 0) rfl
    have x0 := hkb'.cell (i := 0) rfl
    have y1 := hy1'.cell (i := 1) rfl
    have x1 := hkb'.cell (i := 1) rfl
    have y2 := hy1'.cell (i := 2) rfl
    have x2 := hkb'.cell (i := 2) rfl
    have y3 := hy1'.cell (i := 3) rfl
    have x3 := hkb'.cell (i := 3) rfl
    have y4 := hy1'.cell (i := 4) rfl
    have x4 := hkb'.cell (i := 4) rfl
    have y5 := hy1'.cell (i := 5) rfl
    have x5 := hkb'.cell (i := 5) rfl
    have y6 := hy1'.cell (i := 6) rfl
    have x6 := hkb'.cell (i := 6) rfl
    have y7 := hy1'.cell (i := 7) rfl
    have x7 := hkb'.cell (i := 7) rfl
    have y8 := hy1'.cell (i := 8) rfl
    have x8 := hkb'.cell (i := 8) rfl
    have y9 := hy1'.cell (i := 9) rfl
    have x9 := hkb'.cell (i := 9) rfl
    have y10 := hy1'.cell (i := 10) rfl
    have x10 := hkb'.cell (i := 10) rfl
    have y11 := hy1'.cell (i := 11) rfl
    have x11 := hkb'.cell (i := 11) rfl
    have HT2 := TT.out.bel HI.out.bel
    have OKx := (HE.out.hp pre.length (by omega)).ok
    have OKy := HE.out.rp pre.length (by omega)
    have hr1 : turned (restP k Q w pre.length) (halvesP w pre.length) w = restP k Q w (pre.length + 1) := by
     show _ = (if k / 2 ^ (Q - (3 + pre.length)) % 2 = 1 then turned (restP k Q w pre.length) (halvesP w pre.length) w else restP k Q w pre.length)
     rw [if_pos hb]
    have OKt := HE.out.rp (pre.length + 1) (by have := HQL.out; omega)
    rw [← hr1, ← HX.out, ← HY3.out] at OKt
    rw [← HY3.out] at OKy
    rw [← HX.out] at OKx
    have HTU := Ho.mk (dTurned (n := w) (nn := wi) W HT2 HY2.out.k1 HY2.out.k2 HY2.out.k3 HY2.out.k4 H2.out.k1 H2.out.k2 H2.out.k3 H2.out.k4 HW.out hwi OKy OKx OKt)
    have HOK := Ho.mk (HY3.out ▸ OKy)
    have HR1 := Ho.mk hr1
    have HYO := Ho.mk OKy
    have HB1 := Ho.mk hb
    have HKY := Ho.mk (rest_ky (w := w) (fun j hj hb => HE.out.rg j hj hb))
    clear HT2 OKx OKy OKt hr1 hb hkb' hy1'
    gi_wp2_with fail
    refine ⟨trivial, ((callsIn_wide.2 HTU.out).inRound l).mono ?_⟩
    rintro e w7 ⟨A7, a7, B7, b7, C7, c7, D7, d7, rfl, n1, n2, n3, n4, b8⟩
    clear x0 x1 x2 x3 x4 x5 x6 x7 x8 x9 x10 x11 y0 y1 y2 y3 y4 y5 y6 y7 y8 y9 y10 y11
    have hy7 := HY1.out.bel b8
    unfold Pc.cells at hy7
    have y0 := hy7.cell (i := 0) rfl
    have z0 := hy7.free 0
    have y1 := hy7.cell (i := 1) rfl
    have z1 := hy7.free 1
    have y2 := hy7.cell (i := 2) rfl
    have z2 := hy7.free 2
    have y3 := hy7.cell (i := 3) rfl
    have z3 := hy7.free 3
    have y4 := hy7.cell (i := 4) rfl
    have z4 := hy7.free 4
    have y5 := hy7.cell (i := 5) rfl
    have z5 := hy7.free 5
    have y6 := hy7.cell (i := 6) rfl
    have z6 := hy7.free 6
    have y7 := hy7.cell (i := 7) rfl
    have z7 := hy7.free 7
    have y8 := hy7.cell (i := 8) rfl
    have z8 := hy7.free 8
    have y9 := hy7.cell (i := 9) rfl
    have z9 := hy7.free 9
    have y10 := hy7.cell (i := 10) rfl
    have z10 := hy7.free 10
    have y11 := hy7.cell (i := 11) rfl
    have z11 := hy7.free 11
    have HM0 := Ho.mk hbit
    have HM1 := Ho.mk hb0
    have HM2 := Ho.mk hz0
    have HM3 := Ho.mk hz1
    clear hbit hq hQ2 hlen hsz hlO hb2 HN t0 t1 w0 hb0 hz0 hz1 q0
    dsimp only
    go_at_K
    iterate 5 (first | gi_guarded | gi_step | gi_upon)
    clear y0 y1 y2 y3 y4 y5 y6 y7 y8 y9 y10 y11 z0 z1 z2 z3 z4 z5 z6 z7 z8 z9 z10 z11 hy7
    obtain ⟨i1, j1⟩ := ir_turn (x' := ⟨A7, a7, B7, b7, C7, c7, D7, d7, turned y.p x.p w⟩) (j' := pre.length + 1) (Nat.le_refl _) HM1.out HI.out HOK.out b8 ⟨n1, n2, n3, n4⟩ (by show turned y.p x.p w = _; rw [HY3.out, HX.out]; exact HR1.out) rfl
    obtain ⟨wf, hwf⟩ : ∃ wf, set12 w7 b5 (.bool (dneg (turned y.p x.p w).1.1)) (.slice A7 (digs (dm (turned y.p x.p w).1.1)).length a7) (.int .i64 (de (turned y.p x.p w).1.1)) (.bool (dneg (turned y.p x.p w).1.2)) (.slice B7 (digs (dm (turned y.p x.p w).1.2)).length b7) (.int .i64 (de (turned y.p x.p w).1.2)) (.bool (dneg (turned y.p x.p w).2.1)) (.slice C7 (digs (dm (turned y.p x.p w).2.1)).length c7) (.int .i64 (de (turned y.p x.p w).2.1)) (.bool (dneg (turned y.p x.p w).2.2)) (.slice D7 (digs (dm (turned y.p x.p w).2.2)).length d7) (.int .i64 (de (turned y.p x.p w).2.2)) = wf := ⟨_, rfl⟩
    rw [hwf] at i1 j1
    unfold set12 at hwf
    rw [hwf]
    have q1 := i1.kq.cell (i := 0) rfl
    have z1 := i1.kq.free 0
    rw [← HZ.out] at q1
    have HI1 := Ho.mk i1
    have HJ1 := Ho.mk j1
    have hz0 := HM2.out
    have hz1 := HM3.out
    clear hwf i1 j1 n1 n2 n3 n4 b8
    gi_wp2
    --@@
    obtain ⟨i2, j2⟩ := ir_next (Nat.le_refl _) HM1.out HI1.out (HKY.out (pre.length + 1) (by have := HQL.out; omega)) (z := zi + 1) (by have := HZ.out; omega)
    refine ⟨?_, ?_, ?_⟩
    ·rw [HSz.out]; exact HJ1.out.trans j2
    ·rw [List.length_append, List.length_singleton]; exact i2
    ·rw [List.length_append, List.length_singleton]; have := HQL.out; omega
   ·have hbz : k / 2 ^ (Q - (3 + pre.length)) % 2 = 0 := by omega
    rw [hbz] at hbit
    clear hb hkb'
    have z0 := HI.out.kq.free 0
    have HBZ := Ho.mk hbz
    have HKY := Ho.mk (rest_ky (w := w) (fun j hj hb => HE.out.rg j hj hb))
    clear hbz
    gi_wp2
    have hr0 : restP k Q w (pre.length + 1) = restP k Q w pre.length := by
     show (if k / 2 ^ (Q - (3 + pre.length)) % 2 = 1 then turned (restP k Q w pre.length) (halvesP w pre.length) w else restP k Q w pre.length) = _
     rw [if_neg (by rw [HBZ.out]; decide)]
    obtain ⟨i1, i2⟩ := ir_next (Nat.le_refl _) hb0 HI.out (HKY.out pre.length (by have := HQL.out; omega)) (z := zi + 1) (by have := HZ.out; omega)
    refine ⟨?_, ?_, ?_⟩
    ·rw [HSz.out]; exact i2
    ·rw [List.length_append, List.length_singleton]; exact ir_eq hr0.symm i1
    ·rw [List.length_append, List.length_singleton]; have := HQL.out; omega
 ·-- never done
  intro ys O W _ h; exact h.elim
 ·-- broken off
  rintro c pre O W hsz _ ⟨rfl, hI⟩ hd
  obtain ⟨y, hy1, hy2, hy3⟩ := hI.pt
  have hy1' := hy1
  unfold Pc.cells at hy1'
  have y0 := hy1'.cell (i := 0) rfl
  have y1 := hy1'.cell (i := 1) rfl
  have y2 := hy1'.cell (i := 2) rfl
  have y3 := hy1'.cell (i := 3) rfl
  have y4 := hy1'.cell (i := 4) rfl
  have y5 := hy1'.cell (i := 5) rfl
  have y6 := hy1'.cell (i := 6) rfl
  have y7 := hy1'.cell (i := 7) rfl
  have y8 := hy1'.cell (i := 8) rfl
  have y9 := hy1'.cell (i := 9) rfl
  have y10 := hy1'.cell (i := 10) rfl
  have y11 := hy1'.cell (i := 11) rfl
  have x0 := hI.res.cell (i := 0) rfl
  have z0 := hI.res.free 0
  have x1 := hI.res.cell (i := 1) rfl
  have z1 := hI.res.free 1
  have x2 := hI.res.cell (i := 2) rfl
  have z2 := hI.res.free 2
  have x3 := hI.res.cell (i := 3) rfl
  have z3 := hI.res.free 3
  have x4 := hI.res.cell (i := 4) rfl
  have z4 := hI.res.free 4
  have x5 := hI.res.cell (i := 5) rfl
  have z5 := hI.res.free 5
  have x6 := hI.res.cell (i := 6) rfl
  have z6 := hI.res.free 6
  have x7 := hI.res.cell (i := 7) rfl
  have z7 := hI.res.free 7
  have x8 := hI.res.cell (i := 8) rfl
  have z8 := hI.res.free 8
  have x9 := hI.res.cell (i := 9) rfl
  have z9 := hI.res.free 9
  have x10 := hI.res.cell (i := 10) rfl
  have z10 := hI.res.free 10
  have x11 := hI.res.cell (i := 11) rfl
  have z11 := hI.res.free 11
  clear hy1'
  have HH := Ho.mk hI
  have H2 := Ho.mk hy2
  have H3 := Ho.mk hy3
  have HD := Ho.mk hd
  clear hI hy1 hy2 hy3 hd
  gi_wp2
  rw [← H3.out]
  exact leaveP (fn := Tryz.f211) (p := y.p) rfl rfl HH.out.bel (by omega) HH.out.res H2.out.k1 H2.out.k2 H2.out.k3 H2.out.k4 HD.out (by have := HSz.out; omega)
end C6
namespace U2
open Ieee Go Go.RowKit Go.Proofs.YtnbdoidccacdnaaGreatDoor Ow Pl Dp Dt F1 T0 I0 U0 U1
attribute [local go_sem ↓] Go.wp_at_zero Go.wp_at_succ
theorem run_index8 (cs : Array Value) (i : Nat) (hi : i < 8) (w : World) : (Instr.index 203 (.agg cs) (.int .i64 i)).run Tryz.prog w = .ok (.agg (cs.extract (i * 3) (i * 3 + 3))) w := by
 have hu : Tryz.prog.underlying 203 = some (.array 8 202) := by kernel_rfl
 have hu2 : Tryz.prog.underlying 202 = some (.array 3 4) := by kernel_rfl
 obtain ⟨i0, hi0⟩ := Option.isSome_iff_exists.1 (show (Tryz.prog.info? 202).isSome = true by kernel_rfl)
 have hc : Tryz.prog.cellsOf 202 = 3 := by kernel_rfl
 simp [Instr.index, asIntOf, run_underlying hu, run_underlying hu2, run_sizeOf w hi0, hc, part, isAgg, Sem.run_bind, Result.andThen, hi]
theorem dPlace {e : Nat} {ei : Int} (w : World) (he : e ≤ 7) (hei : (e : Int) = ei) : Calls Tryz.prog 159 #[.int .i64 ei] w
  (fun r w' => r = .returned (.tuple #[.bool (placeT e).1, .bool (placeT e).2.1, .bool (placeT e).2.2]) ∧ Bel w w') := by
 rcases (show (e = 0 ∧ ei = 0) ∨ (e = 1 ∧ ei = 1) ∨ (e = 2 ∧ ei = 2) ∨ (e = 3 ∧ ei = 3) ∨ (e = 4 ∧ ei = 4) ∨ (e = 5 ∧ ei = 5) ∨ (e = 6 ∧ ei = 6) ∨ (e = 7 ∧ ei = 7) by omega) with ⟨rfl, rfl⟩ | ⟨rfl, rfl⟩ | ⟨rfl, rfl⟩ | ⟨rfl, rfl⟩ | ⟨rfl, rfl⟩ | ⟨rfl, rfl⟩ | ⟨rfl, rfl⟩ | ⟨rfl, rfl⟩
 all_goals clear hei he
 ·have hix := fun cs w => run_index8 cs 0 (by decide) w
  simp only [Int.cast_ofNat_Int] at hix
  go_enter Tryz.func159, Tryz.ntmps159
  go_wp2_with (simp only [hix])
  go_quiet (fail)
  go_wp2
  exact bodyPost_ret (v := .tuple #[.bool (placeT 0).1, .bool (placeT 0).2.1, .bool (placeT 0).2.2]) (by simp [results, Tryz.f159, go_sem, placeT]) rfl ⟨rfl, ((Bel.refl w).alloc _).drewN _⟩
 ·have hix := fun cs w => run_index8 cs 1 (by decide) w
  simp only [Int.cast_ofNat_Int] at hix
  go_enter Tryz.func159, Tryz.ntmps159
  go_wp2_with (simp only [hix])
  go_quiet (fail)
  go_wp2
  exact bodyPost_ret (v := .tuple #[.bool (placeT 1).1, .bool (placeT 1).2.1, .bool (placeT 1).2.2]) (by simp [results, Tryz.f159, go_sem, placeT]) rfl ⟨rfl, ((Bel.refl w).alloc _).drewN _⟩
 ·have hix := fun cs w => run_index8 cs 2 (by decide) w
  simp only [Int.cast_ofNat_Int] at hix
  go_enter Tryz.func159, Tryz.ntmps159
  go_wp2_with (simp only [hix])
  go_quiet (fail)
  go_wp2
  exact bodyPost_ret (v := .tuple #[.bool (placeT 2).1, .bool (placeT 2).2.1, .bool (placeT 2).2.2]) (by simp [results, Tryz.f159, go_sem, placeT]) rfl ⟨rfl, ((Bel.refl w).alloc _).drewN _⟩
 ·have hix := fun cs w => run_index8 cs 3 (by decide) w
  simp only [Int.cast_ofNat_Int] at hix
  go_enter Tryz.func159, Tryz.ntmps159
  go_wp2_with (simp only [hix])
  go_quiet (fail)
  go_wp2
  exact bodyPost_ret (v := .tuple #[.bool (placeT 3).1, .bool (placeT 3).2.1, .bool (placeT 3).2.2]) (by simp [results, Tryz.f159, go_sem, placeT]) rfl ⟨rfl, ((Bel.refl w).alloc _).drewN _⟩
 ·have hix := fun cs w => run_index8 cs 4 (by decide) w
  simp only [Int.cast_ofNat_Int] at hix
  go_enter Tryz.func159, Tryz.ntmps159
  go_wp2_with (simp only [hix])
  go_quiet (fail)
  go_wp2
  exact bodyPost_ret (v := .tuple #[.bool (placeT 4).1, .bool (placeT 4).2.1, .bool (placeT 4).2.2]) (by simp [results, Tryz.f159, go_sem, placeT]) rfl ⟨rfl, ((Bel.refl w).alloc _).drewN _⟩
 ·have hix := fun cs w => run_index8 cs 5 (by decide) w
  simp only [Int.cast_ofNat_Int] at hix
  go_enter Tryz.func159, Tryz.ntmps159
  go_wp2_with (simp only [hix])
  go_quiet (fail)
  go_wp2
  exact bodyPost_ret (v := .tuple #[.bool (placeT 5).1, .bool (placeT 5).2.1, .bool (placeT 5).2.2]) (by simp [results, Tryz.f159, go_sem, placeT]) rfl ⟨rfl, ((Bel.refl w).alloc _).drewN _⟩
 ·have hix := fun cs w => run_index8 cs 6 (by decide) w
  simp only [Int.cast_ofNat_Int] at hix
  go_enter Tryz.func159, Tryz.ntmps159
  go_wp2_with (simp only [hix])
  go_quiet (fail)
  go_wp2
  exact bodyPost_ret (v := .tuple #[.bool (placeT 6).1, .bool (placeT 6).2.1, .bool (placeT 6).2.2]) (by simp [results, Tryz.f159, go_sem, placeT]) rfl ⟨rfl, ((Bel.refl w).alloc _).drewN _⟩
 ·have hix := fun cs w => run_index8 cs 7 (by decide) w
  simp only [Int.cast_ofNat_Int] at hix
  go_enter Tryz.func159, Tryz.ntmps159
  go_wp2_with (simp only [hix])
  go_quiet (fail)
  go_wp2
  exact bodyPost_ret (v := .tuple #[.bool (placeT 7).1, .bool (placeT 7).2.1, .bool (placeT 7).2.2]) (by simp [results, Tryz.f159, go_sem, placeT]) rfl ⟨rfl, ((Bel.refl w).alloc _).drewN _⟩
end U2
namespace C7
open Go Go.RowKit Go.Proofs Go.Proofs.YtnbdoidccacdnaaGreatDoor Ow Pl Dp Dt D3 F1 T0 I0 V1 T1 U0 U1
open C0 C5 C6
attribute [local go_sem ↓] Go.wp_at_zero Go.wp_at_succ
theorem of_0 {q w : Nat} {k ki qi wi : Int} {s : Nat × (Nat × Nat)} (W0 : World) (T : Tab W0) (hk : k = ki) (hq : (q : Int) = qi) (hq9 : q ≤ 9) (hs : splitT k q = s) (he : s.1 = 0) (hs9 : s.2.2 ≤ 9) (hk9 : s.2.1 < 64) (hs3 : s.2.2 = 0 ∨ 3 ≤ s.2.2) (hw : w ≤ 3000) (hwi : (w : Int) = wi) (EN : RestOk s.2.1 s.2.2 w) :
  Calls Tryz.prog 193 #[.agg #[.int .i64 ki, .int .i64 qi], .int .i64 wi] W0 (MakesP W0 (restP s.2.1 s.2.2 w (s.2.2 - 2)) 400 3) := by
 subst hk
 have SP := Ho.mk (fun w T => dSplit (k := k) w T hq hq9)
 rw [hs] at SP
 have RE := Ho.mk (fun W T => dRest (ki := (s.2.1 : Int)) (Qi := (s.2.2 : Int)) W T rfl rfl hw hwi hs9 hk9 EN hs3)
 have PL : Ho (∀ w, Calls Tryz.prog 159 #[.int .i64 0] w (fun r w' => r = .returned (.tuple #[.bool false, .bool false, .bool false]) ∧ Bel w w')) := ⟨fun w => U2.dPlace (e := 0) w (by decide) rfl⟩
 have HOK := Ho.mk (EN.rp (s.2.2 - 2) (Nat.le_refl _))
 have TT := Ho.mk T
 unfold MakesS at SP
 rw [he] at SP
 have HE := Ho.mk he
 clear T hs EN he
 have e2 : (s.2.1 : Int) = s.2.1 := rfl
 generalize restP s.2.1 s.2.2 w (s.2.2 - 2) = r at *
 generalize (s.2.1 : Int) = rk at *
 generalize (s.2.2 : Int) = rq at *
 go_enter Tryz.func193, Tryz.ntmps193
 go_wp2_with fail
 have KT := Ho.mk ((Blk.new W0 [.int .i64 k, .int .i64 qi] 79).old (.cells #[.bool false, .slice none 0 0, .int .i64 0, .bool false, .slice none 0 0, .int .i64 0, .bool false, .slice none 0 0, .int .i64 0, .bool false, .slice none 0 0, .int .i64 0] 208))
 have KR := Ho.mk (Blk.new (W0.alloc (.cells #[.int .i64 k, .int .i64 qi] 79)) [.bool false, .slice none 0 0, .int .i64 0, .bool false, .slice none 0 0, .int .i64 0, .bool false, .slice none 0 0, .int .i64 0, .bool false, .slice none 0 0, .int .i64 0] 208)
 rw [World.size_alloc] at KR
 have g0 := Ho.mk (((Bel.refl W0).alloc (.cells #[.int .i64 k, .int .i64 qi] 79)).alloc (.cells #[.bool false, .slice none 0 0, .int .i64 0, .bool false, .slice none 0 0, .int .i64 0, .bool false, .slice none 0 0, .int .i64 0, .bool false, .slice none 0 0, .int .i64 0] 208))
 have hS : ((W0.alloc (.cells #[.int .i64 k, .int .i64 qi] 79)).alloc (.cells #[.bool false, .slice none 0 0, .int .i64 0, .bool false, .slice none 0 0, .int .i64 0, .bool false, .slice none 0 0, .int .i64 0, .bool false, .slice none 0 0, .int .i64 0] 208)).heap.size = W0.heap.size + 1 + 1 := by simp only [World.size_alloc]
 generalize ((W0.alloc (.cells #[.int .i64 k, .int .i64 qi] 79)).alloc (.cells #[.bool false, .slice none 0 0, .int .i64 0, .bool false, .slice none 0 0, .int .i64 0, .bool false, .slice none 0 0, .int .i64 0, .bool false, .slice none 0 0, .int .i64 0] 208)) = W at *
 have y0 := KT.out.cell (i := 0) rfl
 have y1 := KT.out.cell (i := 1) rfl
 go_wp2_with fail
 (with_reducible refine (SP.out _ (TT.out.bel g0.out)).mono ?_); rintro e w1 ⟨rfl, b1⟩
 have KP0 := Ho.mk (Blk.new w1 [.int .i64 0, .int .i64 rk, .int .i64 rq] 175)
 clear y0 y1
 have y0 := KP0.out.cell (i := 0) rfl
 have y1 := KP0.out.cell (i := 1) rfl
 have y2 := KP0.out.cell (i := 2) rfl
 go_wp2_with fail
 (with_reducible refine (RE.out _ (TT.out.bel ((g0.out.trans b1).alloc _))).mono ?_); rintro e w2 ⟨A, a, B, b, C, c, D, d, rfl, n1, n2, n3, n4, b2⟩
 have g2 := Ho.mk (((g0.out.trans b1).alloc (.cells #[.int .i64 0, .int .i64 rk, .int .i64 rq] 175)).trans b2)
 have KP := Ho.mk (KP0.out.bel (b2.alloc (.cells #[.bool (dneg r.1.1), .slice A (digs (dm r.1.1)).length a, .int .i64 (de r.1.1), .bool (dneg r.1.2), .slice B (digs (dm r.1.2)).length b, .int .i64 (de r.1.2), .bool (dneg r.2.1), .slice C (digs (dm r.2.1)).length c, .int .i64 (de r.2.1), .bool (dneg r.2.2), .slice D (digs (dm r.2.2)).length d, .int .i64 (de r.2.2)] 208)))
 have KX := Ho.mk (Blk.new w2 [.bool (dneg r.1.1), .slice A (digs (dm r.1.1)).length a, .int .i64 (de r.1.1), .bool (dneg r.1.2), .slice B (digs (dm r.1.2)).length b, .int .i64 (de r.1.2), .bool (dneg r.2.1), .slice C (digs (dm r.2.1)).length c, .int .i64 (de r.2.1), .bool (dneg r.2.2), .slice D (digs (dm r.2.2)).length d, .int .i64 (de r.2.2)] 208)
 clear y0 y1 y2
 have y0 := KP.out.cell (i := 0) rfl
 have y1 := KP.out.cell (i := 1) rfl
 have y2 := KP.out.cell (i := 2) rfl
 go_wp2_with fail
 (with_reducible refine (PL.out _).mono ?_); rintro e w3 ⟨rfl, b3⟩
 have KX2 := Ho.mk (KX.out.bel b3)
 have g3 := Ho.mk ((g2.out.alloc (.cells #[.bool (dneg r.1.1), .slice A (digs (dm r.1.1)).length a, .int .i64 (de r.1.1), .bool (dneg r.1.2), .slice B (digs (dm r.1.2)).length b, .int .i64 (de r.1.2), .bool (dneg r.2.1), .slice C (digs (dm r.2.1)).length c, .int .i64 (de r.2.1), .bool (dneg r.2.2), .slice D (digs (dm r.2.2)).length d, .int .i64 (de r.2.2)] 208)).trans b3)
 have KR2 := Ho.mk (KR.out.bel ((((b1.alloc (.cells #[.int .i64 0, .int .i64 rk, .int .i64 rq] 175)).trans b2).alloc (.cells #[.bool (dneg r.1.1), .slice A (digs (dm r.1.1)).length a, .int .i64 (de r.1.1), .bool (dneg r.1.2), .slice B (digs (dm r.1.2)).length b, .int .i64 (de r.1.2), .bool (dneg r.2.1), .slice C (digs (dm r.2.1)).length c, .int .i64 (de r.2.1), .bool (dneg r.2.2), .slice D (digs (dm r.2.2)).length d, .int .i64 (de r.2.2)] 208)).trans b3))
 have M1 := Ho.mk ((n1.bel ((Bel.refl w2).alloc (.cells #[.bool (dneg r.1.1), .slice A (digs (dm r.1.1)).length a, .int .i64 (de r.1.1), .bool (dneg r.1.2), .slice B (digs (dm r.1.2)).length b, .int .i64 (de r.1.2), .bool (dneg r.2.1), .slice C (digs (dm r.2.1)).length c, .int .i64 (de r.2.1), .bool (dneg r.2.2), .slice D (digs (dm r.2.2)).length d, .int .i64 (de r.2.2)] 208))).bel b3)
 have M2 := Ho.mk ((n2.bel ((Bel.refl w2).alloc (.cells #[.bool (dneg r.1.1), .slice A (digs (dm r.1.1)).length a, .int .i64 (de r.1.1), .bool (dneg r.1.2), .slice B (digs (dm r.1.2)).length b, .int .i64 (de r.1.2), .bool (dneg r.2.1), .slice C (digs (dm r.2.1)).length c, .int .i64 (de r.2.1), .bool (dneg r.2.2), .slice D (digs (dm r.2.2)).length d, .int .i64 (de r.2.2)] 208))).bel b3)
 have M3 := Ho.mk ((n3.bel ((Bel.refl w2).alloc (.cells #[.bool (dneg r.1.1), .slice A (digs (dm r.1.1)).length a, .int .i64 (de r.1.1), .bool (dneg r.1.2), .slice B (digs (dm r.1.2)).length b, .int .i64 (de r.1.2), .bool (dneg r.2.1), .slice C (digs (dm r.2.1)).length c, .int .i64 (de r.2.1), .bool (dneg r.2.2), .slice D (digs (dm r.2.2)).length d, .int .i64 (de r.2.2)] 208))).bel b3)
 have M4 := Ho.mk ((n4.bel ((Bel.refl w2).alloc (.cells #[.bool (dneg r.1.1), .slice A (digs (dm r.1.1)).length a, .int .i64 (de r.1.1), .bool (dneg r.1.2), .slice B (digs (dm r.1.2)).length b, .int .i64 (de r.1.2), .bool (dneg r.2.1), .slice C (digs (dm r.2.1)).length c, .int .i64 (de r.2.1), .bool (dneg r.2.2), .slice D (digs (dm r.2.2)).length d, .int .i64 (de r.2.2)] 208))).bel b3)
 have hw2 : W0.heap.size + 2 ≤ w2.heap.size := by have h1 := b1.size; have h2 := b2.size; simp only [World.size_alloc] at h2; omega
 clear y0 y1 y2 n1 n2 n3 n4 b1 b2 b3
 generalize w2.heap.size = bx at *
 have y0 := KX2.out.cell (i := 0) rfl
 have y1 := KX2.out.cell (i := 1) rfl
 have y2 := KX2.out.cell (i := 2) rfl
 have y3 := KX2.out.cell (i := 3) rfl
 have y4 := KX2.out.cell (i := 4) rfl
 have y5 := KX2.out.cell (i := 5) rfl
 have y6 := KX2.out.cell (i := 6) rfl
 have y7 := KX2.out.cell (i := 7) rfl
 have y8 := KX2.out.cell (i := 8) rfl
 have y9 := KX2.out.cell (i := 9) rfl
 have y10 := KX2.out.cell (i := 10) rfl
 have y11 := KX2.out.cell (i := 11) rfl
 have x0 := KR2.out.cell (i := 0) rfl
 have x1 := KR2.out.cell (i := 1) rfl
 have x2 := KR2.out.cell (i := 2) rfl
 have x3 := KR2.out.cell (i := 3) rfl
 have x4 := KR2.out.cell (i := 4) rfl
 have x5 := KR2.out.cell (i := 5) rfl
 have x6 := KR2.out.cell (i := 6) rfl
 have x7 := KR2.out.cell (i := 7) rfl
 have x8 := KR2.out.cell (i := 8) rfl
 have x9 := KR2.out.cell (i := 9) rfl
 have x10 := KR2.out.cell (i := 10) rfl
 have x11 := KR2.out.cell (i := 11) rfl
 have z0 := KR2.out.free 0
 have z1 := KR2.out.free 1
 have z2 := KR2.out.free 2
 have z3 := KR2.out.free 3
 have z4 := KR2.out.free 4
 have z5 := KR2.out.free 5
 have z6 := KR2.out.free 6
 have z7 := KR2.out.free 7
 have z8 := KR2.out.free 8
 have z9 := KR2.out.free 9
 have z10 := KR2.out.free 10
 have z11 := KR2.out.free 11
 go_wp2
 exact gives_endP (fn := Tryz.f193) (p := r) rfl rfl g3.out (by omega) KR2.out (ni_zero KR2.out) M1.out M2.out M3.out M4.out
theorem of_1 {q w : Nat} {k ki qi wi : Int} {s : Nat × (Nat × Nat)} (W0 : World) (T : Tab W0) (hk : k = ki) (hq : (q : Int) = qi) (hq9 : q ≤ 9) (hs : splitT k q = s) (he : s.1 = 1) (hs9 : s.2.2 ≤ 9) (hk9 : s.2.1 < 64) (hs3 : s.2.2 = 0 ∨ 3 ≤ s.2.2) (hw : w ≤ 3000) (hwi : (w : Int) = wi) (EN : RestOk s.2.1 s.2.2 w) :
  Calls Tryz.prog 193 #[.agg #[.int .i64 ki, .int .i64 qi], .int .i64 wi] W0 (MakesP W0 ((restP s.2.1 s.2.2 w (s.2.2 - 2)).2, (restP s.2.1 s.2.2 w (s.2.2 - 2)).1) 400 3) := by
 subst hk
 have SP := Ho.mk (fun w T => dSplit (k := k) w T hq hq9)
 rw [hs] at SP
 have RE := Ho.mk (fun W T => dRest (ki := (s.2.1 : Int)) (Qi := (s.2.2 : Int)) W T rfl rfl hw hwi hs9 hk9 EN hs3)
 have PL : Ho (∀ w, Calls Tryz.prog 159 #[.int .i64 1] w (fun r w' => r = .returned (.tuple #[.bool true, .bool false, .bool false]) ∧ Bel w w')) := ⟨fun w => U2.dPlace (e := 1) w (by decide) rfl⟩
 have HOK := Ho.mk (EN.rp (s.2.2 - 2) (Nat.le_refl _))
 have TT := Ho.mk T
 unfold MakesS at SP
 rw [he] at SP
 have HE := Ho.mk he
 clear T hs EN he
 have e2 : (s.2.1 : Int) = s.2.1 := rfl
 generalize restP s.2.1 s.2.2 w (s.2.2 - 2) = r at *
 generalize (s.2.1 : Int) = rk at *
 generalize (s.2.2 : Int) = rq at *
 go_enter Tryz.func193, Tryz.ntmps193
 go_wp2_with fail
 have KT := Ho.mk ((Blk.new W0 [.int .i64 k, .int .i64 qi] 79).old (.cells #[.bool false, .slice none 0 0, .int .i64 0, .bool false, .slice none 0 0, .int .i64 0, .bool false, .slice none 0 0, .int .i64 0, .bool false, .slice none 0 0, .int .i64 0] 208))
 have KR := Ho.mk (Blk.new (W0.alloc (.cells #[.int .i64 k, .int .i64 qi] 79)) [.bool false, .slice none 0 0, .int .i64 0, .bool false, .slice none 0 0, .int .i64 0, .bool false, .slice none 0 0, .int .i64 0, .bool false, .slice none 0 0, .int .i64 0] 208)
 rw [World.size_alloc] at KR
 have g0 := Ho.mk (((Bel.refl W0).alloc (.cells #[.int .i64 k, .int .i64 qi] 79)).alloc (.cells #[.bool false, .slice none 0 0, .int .i64 0, .bool false, .slice none 0 0, .int .i64 0, .bool false, .slice none 0 0, .int .i64 0, .bool false, .slice none 0 0, .int .i64 0] 208))
 have hS : ((W0.alloc (.cells #[.int .i64 k, .int .i64 qi] 79)).alloc (.cells #[.bool false, .slice none 0 0, .int .i64 0, .bool false, .slice none 0 0, .int .i64 0, .bool false, .slice none 0 0, .int .i64 0, .bool false, .slice none 0 0, .int .i64 0] 208)).heap.size = W0.heap.size + 1 + 1 := by simp only [World.size_alloc]
 generalize ((W0.alloc (.cells #[.int .i64 k, .int .i64 qi] 79)).alloc (.cells #[.bool false, .slice none 0 0, .int .i64 0, .bool false, .slice none 0 0, .int .i64 0, .bool false, .slice none 0 0, .int .i64 0, .bool false, .slice none 0 0, .int .i64 0] 208)) = W at *
 have y0 := KT.out.cell (i := 0) rfl
 have y1 := KT.out.cell (i := 1) rfl
 go_wp2_with fail
 (with_reducible refine (SP.out _ (TT.out.bel g0.out)).mono ?_); rintro e w1 ⟨rfl, b1⟩
 have KP0 := Ho.mk (Blk.new w1 [.int .i64 1, .int .i64 rk, .int .i64 rq] 175)
 clear y0 y1
 have y0 := KP0.out.cell (i := 0) rfl
 have y1 := KP0.out.cell (i := 1) rfl
 have y2 := KP0.out.cell (i := 2) rfl
 go_wp2_with fail
 (with_reducible refine (RE.out _ (TT.out.bel ((g0.out.trans b1).alloc _))).mono ?_); rintro e w2 ⟨A, a, B, b, C, c, D, d, rfl, n1, n2, n3, n4, b2⟩
 have g2 := Ho.mk (((g0.out.trans b1).alloc (.cells #[.int .i64 1, .int .i64 rk, .int .i64 rq] 175)).trans b2)
 have KP := Ho.mk (KP0.out.bel (b2.alloc (.cells #[.bool (dneg r.1.1), .slice A (digs (dm r.1.1)).length a, .int .i64 (de r.1.1), .bool (dneg r.1.2), .slice B (digs (dm r.1.2)).length b, .int .i64 (de r.1.2), .bool (dneg r.2.1), .slice C (digs (dm r.2.1)).length c, .int .i64 (de r.2.1), .bool (dneg r.2.2), .slice D (digs (dm r.2.2)).length d, .int .i64 (de r.2.2)] 208)))
 have KX := Ho.mk (Blk.new w2 [.bool (dneg r.1.1), .slice A (digs (dm r.1.1)).length a, .int .i64 (de r.1.1), .bool (dneg r.1.2), .slice B (digs (dm r.1.2)).length b, .int .i64 (de r.1.2), .bool (dneg r.2.1), .slice C (digs (dm r.2.1)).length c, .int .i64 (de r.2.1), .bool (dneg r.2.2), .slice D (digs (dm r.2.2)).length d, .int .i64 (de r.2.2)] 208)
 clear y0 y1 y2
 have y0 := KP.out.cell (i := 0) rfl
 have y1 := KP.out.cell (i := 1) rfl
 have y2 := KP.out.cell (i := 2) rfl
 go_wp2_with fail
 (with_reducible refine (PL.out _).mono ?_); rintro e w3 ⟨rfl, b3⟩
 have KX2 := Ho.mk (KX.out.bel b3)
 have g3 := Ho.mk ((g2.out.alloc (.cells #[.bool (dneg r.1.1), .slice A (digs (dm r.1.1)).length a, .int .i64 (de r.1.1), .bool (dneg r.1.2), .slice B (digs (dm r.1.2)).length b, .int .i64 (de r.1.2), .bool (dneg r.2.1), .slice C (digs (dm r.2.1)).length c, .int .i64 (de r.2.1), .bool (dneg r.2.2), .slice D (digs (dm r.2.2)).length d, .int .i64 (de r.2.2)] 208)).trans b3)
 have KR2 := Ho.mk (KR.out.bel ((((b1.alloc (.cells #[.int .i64 1, .int .i64 rk, .int .i64 rq] 175)).trans b2).alloc (.cells #[.bool (dneg r.1.1), .slice A (digs (dm r.1.1)).length a, .int .i64 (de r.1.1), .bool (dneg r.1.2), .slice B (digs (dm r.1.2)).length b, .int .i64 (de r.1.2), .bool (dneg r.2.1), .slice C (digs (dm r.2.1)).length c, .int .i64 (de r.2.1), .bool (dneg r.2.2), .slice D (digs (dm r.2.2)).length d, .int .i64 (de r.2.2)] 208)).trans b3))
 have M1 := Ho.mk ((n1.bel ((Bel.refl w2).alloc (.cells #[.bool (dneg r.1.1), .slice A (digs (dm r.1.1)).length a, .int .i64 (de r.1.1), .bool (dneg r.1.2), .slice B (digs (dm r.1.2)).length b, .int .i64 (de r.1.2), .bool (dneg r.2.1), .slice C (digs (dm r.2.1)).length c, .int .i64 (de r.2.1), .bool (dneg r.2.2), .slice D (digs (dm r.2.2)).length d, .int .i64 (de r.2.2)] 208))).bel b3)
 have M2 := Ho.mk ((n2.bel ((Bel.refl w2).alloc (.cells #[.bool (dneg r.1.1), .slice A (digs (dm r.1.1)).length a, .int .i64 (de r.1.1), .bool (dneg r.1.2), .slice B (digs (dm r.1.2)).length b, .int .i64 (de r.1.2), .bool (dneg r.2.1), .slice C (digs (dm r.2.1)).length c, .int .i64 (de r.2.1), .bool (dneg r.2.2), .slice D (digs (dm r.2.2)).length d, .int .i64 (de r.2.2)] 208))).bel b3)
 have M3 := Ho.mk ((n3.bel ((Bel.refl w2).alloc (.cells #[.bool (dneg r.1.1), .slice A (digs (dm r.1.1)).length a, .int .i64 (de r.1.1), .bool (dneg r.1.2), .slice B (digs (dm r.1.2)).length b, .int .i64 (de r.1.2), .bool (dneg r.2.1), .slice C (digs (dm r.2.1)).length c, .int .i64 (de r.2.1), .bool (dneg r.2.2), .slice D (digs (dm r.2.2)).length d, .int .i64 (de r.2.2)] 208))).bel b3)
 have M4 := Ho.mk ((n4.bel ((Bel.refl w2).alloc (.cells #[.bool (dneg r.1.1), .slice A (digs (dm r.1.1)).length a, .int .i64 (de r.1.1), .bool (dneg r.1.2), .slice B (digs (dm r.1.2)).length b, .int .i64 (de r.1.2), .bool (dneg r.2.1), .slice C (digs (dm r.2.1)).length c, .int .i64 (de r.2.1), .bool (dneg r.2.2), .slice D (digs (dm r.2.2)).length d, .int .i64 (de r.2.2)] 208))).bel b3)
 have hw2 : W0.heap.size + 2 ≤ w2.heap.size := by have h1 := b1.size; have h2 := b2.size; simp only [World.size_alloc] at h2; omega
 clear y0 y1 y2 n1 n2 n3 n4 b1 b2 b3
 generalize w2.heap.size = bx at *
 have y0 := KX2.out.cell (i := 0) rfl
 have y1 := KX2.out.cell (i := 1) rfl
 have y2 := KX2.out.cell (i := 2) rfl
 have y3 := KX2.out.cell (i := 3) rfl
 have y4 := KX2.out.cell (i := 4) rfl
 have y5 := KX2.out.cell (i := 5) rfl
 have y6 := KX2.out.cell (i := 6) rfl
 have y7 := KX2.out.cell (i := 7) rfl
 have y8 := KX2.out.cell (i := 8) rfl
 have y9 := KX2.out.cell (i := 9) rfl
 have y10 := KX2.out.cell (i := 10) rfl
 have y11 := KX2.out.cell (i := 11) rfl
 have z0 := KX2.out.free 0
 have z1 := KX2.out.free 1
 have z2 := KX2.out.free 2
 have z3 := KX2.out.free 3
 have z4 := KX2.out.free 4
 have z5 := KX2.out.free 5
 have z6 := KX2.out.free 6
 have z7 := KX2.out.free 7
 have z8 := KX2.out.free 8
 have z9 := KX2.out.free 9
 have z10 := KX2.out.free 10
 have z11 := KX2.out.free 11
 dsimp only
 go_at_K
 iterate 65 (first | go_values | go_guarded | go_step | go_upon | skip)
 --@@
 clear y0 y1 y2 y3 y4 y5 y6 y7 y8 y9 y10 y11 z0 z1 z2 z3 z4 z5 z6 z7 z8 z9 z10 z11
 have hN : NI w3 bx := ni_pc (x := ⟨A, a, B, b, C, c, D, d, r⟩) KX2.out HOK.out
 have KY := Ho.mk (blk_set12 KX2.out (.bool (dneg r.2.1)) (.slice C (digs (dm r.2.1)).length c) (.int .i64 (de r.2.1)) (.bool (dneg r.2.2)) (.slice D (digs (dm r.2.2)).length d) (.int .i64 (de r.2.2)) (.bool (dneg r.1.1)) (.slice A (digs (dm r.1.1)).length a) (.int .i64 (de r.1.1)) (.bool (dneg r.1.2)) (.slice B (digs (dm r.1.2)).length b) (.int .i64 (de r.1.2)))
 have hlt := KX2.out.lt
 have hrl := KR2.out.lt
 have N1 := Ho.mk (dv_set12 M3.out hN (.bool (dneg r.2.1)) (.slice C (digs (dm r.2.1)).length c) (.int .i64 (de r.2.1)) (.bool (dneg r.2.2)) (.slice D (digs (dm r.2.2)).length d) (.int .i64 (de r.2.2)) (.bool (dneg r.1.1)) (.slice A (digs (dm r.1.1)).length a) (.int .i64 (de r.1.1)) (.bool (dneg r.1.2)) (.slice B (digs (dm r.1.2)).length b) (.int .i64 (de r.1.2)))
 have N2 := Ho.mk (dv_set12 M4.out hN (.bool (dneg r.2.1)) (.slice C (digs (dm r.2.1)).length c) (.int .i64 (de r.2.1)) (.bool (dneg r.2.2)) (.slice D (digs (dm r.2.2)).length d) (.int .i64 (de r.2.2)) (.bool (dneg r.1.1)) (.slice A (digs (dm r.1.1)).length a) (.int .i64 (de r.1.1)) (.bool (dneg r.1.2)) (.slice B (digs (dm r.1.2)).length b) (.int .i64 (de r.1.2)))
 have N3 := Ho.mk (dv_set12 M1.out hN (.bool (dneg r.2.1)) (.slice C (digs (dm r.2.1)).length c) (.int .i64 (de r.2.1)) (.bool (dneg r.2.2)) (.slice D (digs (dm r.2.2)).length d) (.int .i64 (de r.2.2)) (.bool (dneg r.1.1)) (.slice A (digs (dm r.1.1)).length a) (.int .i64 (de r.1.1)) (.bool (dneg r.1.2)) (.slice B (digs (dm r.1.2)).length b) (.int .i64 (de r.1.2)))
 have N4 := Ho.mk (dv_set12 M2.out hN (.bool (dneg r.2.1)) (.slice C (digs (dm r.2.1)).length c) (.int .i64 (de r.2.1)) (.bool (dneg r.2.2)) (.slice D (digs (dm r.2.2)).length d) (.int .i64 (de r.2.2)) (.bool (dneg r.1.1)) (.slice A (digs (dm r.1.1)).length a) (.int .i64 (de r.1.1)) (.bool (dneg r.1.2)) (.slice B (digs (dm r.1.2)).length b) (.int .i64 (de r.1.2)))
 have g4 := Ho.mk (bel_set12 g3.out (show W0.heap.size ≤ bx by omega) (.bool (dneg r.2.1)) (.slice C (digs (dm r.2.1)).length c) (.int .i64 (de r.2.1)) (.bool (dneg r.2.2)) (.slice D (digs (dm r.2.2)).length d) (.int .i64 (de r.2.2)) (.bool (dneg r.1.1)) (.slice A (digs (dm r.1.1)).length a) (.int .i64 (de r.1.1)) (.bool (dneg r.1.2)) (.slice B (digs (dm r.1.2)).length b) (.int .i64 (de r.1.2)))
 have KR3 : Ho (Blk (set12 w3 bx (.bool (dneg r.2.1)) (.slice C (digs (dm r.2.1)).length c) (.int .i64 (de r.2.1)) (.bool (dneg r.2.2)) (.slice D (digs (dm r.2.2)).length d) (.int .i64 (de r.2.2)) (.bool (dneg r.1.1)) (.slice A (digs (dm r.1.1)).length a) (.int .i64 (de r.1.1)) (.bool (dneg r.1.2)) (.slice B (digs (dm r.1.2)).length b) (.int .i64 (de r.1.2))) (W0.heap.size + 1) 208 [.bool false, .slice none 0 0, .int .i64 0, .bool false, .slice none 0 0, .int .i64 0, .bool false, .slice none 0 0, .int .i64 0, .bool false, .slice none 0 0, .int .i64 0]) := ⟨blk_keep KR2.out (set12_other (by omega) _ _ _ _ _ _ _ _ _ _ _ _)⟩
 obtain ⟨wf, hwf⟩ : ∃ wf, set12 w3 bx (.bool (dneg r.2.1)) (.slice C (digs (dm r.2.1)).length c) (.int .i64 (de r.2.1)) (.bool (dneg r.2.2)) (.slice D (digs (dm r.2.2)).length d) (.int .i64 (de r.2.2)) (.bool (dneg r.1.1)) (.slice A (digs (dm r.1.1)).length a) (.int .i64 (de r.1.1)) (.bool (dneg r.1.2)) (.slice B (digs (dm r.1.2)).length b) (.int .i64 (de r.1.2)) = wf := ⟨_, rfl⟩
 rw [hwf] at KY N1 N2 N3 N4 g4 KR3
 unfold set12 at hwf
 rw [hwf]
 clear hwf hN KX2
 have y0 := KY.out.cell (i := 0) rfl
 have y1 := KY.out.cell (i := 1) rfl
 have y2 := KY.out.cell (i := 2) rfl
 have y3 := KY.out.cell (i := 3) rfl
 have y4 := KY.out.cell (i := 4) rfl
 have y5 := KY.out.cell (i := 5) rfl
 have y6 := KY.out.cell (i := 6) rfl
 have y7 := KY.out.cell (i := 7) rfl
 have y8 := KY.out.cell (i := 8) rfl
 have y9 := KY.out.cell (i := 9) rfl
 have y10 := KY.out.cell (i := 10) rfl
 have y11 := KY.out.cell (i := 11) rfl
 have x0 := KR3.out.cell (i := 0) rfl
 have x1 := KR3.out.cell (i := 1) rfl
 have x2 := KR3.out.cell (i := 2) rfl
 have x3 := KR3.out.cell (i := 3) rfl
 have x4 := KR3.out.cell (i := 4) rfl
 have x5 := KR3.out.cell (i := 5) rfl
 have x6 := KR3.out.cell (i := 6) rfl
 have x7 := KR3.out.cell (i := 7) rfl
 have x8 := KR3.out.cell (i := 8) rfl
 have x9 := KR3.out.cell (i := 9) rfl
 have x10 := KR3.out.cell (i := 10) rfl
 have x11 := KR3.out.cell (i := 11) rfl
 have z0 := KR3.out.free 0
 have z1 := KR3.out.free 1
 have z2 := KR3.out.free 2
 have z3 := KR3.out.free 3
 have z4 := KR3.out.free 4
 have z5 := KR3.out.free 5
 have z6 := KR3.out.free 6
 have z7 := KR3.out.free 7
 have z8 := KR3.out.free 8
 have z9 := KR3.out.free 9
 have z10 := KR3.out.free 10
 have z11 := KR3.out.free 11
 go_wp2
 exact gives_endP (fn := Tryz.f193) (p := ((r.2, r.1) : Pt)) rfl rfl g4.out (by omega) KR3.out (ni_zero KR3.out) N1.out N2.out N3.out N4.out
end C7
namespace C8
open Go Go.RowKit Go.Proofs Go.Proofs.YtnbdoidccacdnaaGreatDoor Ow Pl Dp Dt D3 F1 T0 I0 V1 T1 U0 U1
open C0
attribute [local go_sem ↓] Go.wp_at_zero Go.wp_at_succ
theorem wid_makes {w : World} {v f : Int} {L U L' U' : Nat} (h : v = f) (k : Wd f L' U') : ∀ e w', MakesD w v L U e w' → MakesD w f L' U' e w' := by
 subst h
 rintro e w' ⟨A, c, rfl, d, b⟩
 exact ⟨A, c, rfl, I0.Dv.wid d k, b⟩
theorem dEnds {A0 B0 : Option Addr} {c0 d0 n : Nat} {a : Iv} {nn : Int} (w : World) (T : Tab w) (p0l : Dv w A0 c0 a.1 400 3) (p0h : Dv w B0 d0 a.2 400 3) (hn : n ≤ 200) (hnn : (n : Int) = nn) (o1 : OkV (endsV a n).1) (o2 : OkV (endsV a n).2) (hk : knownB a n = true) :
  Calls Tryz.prog 192 #[.agg #[.bool (dneg a.1), .slice A0 (digs (dm a.1)).length c0, .int .i64 (de a.1), .bool (dneg a.2), .slice B0 (digs (dm a.2)).length d0, .int .i64 (de a.2)], .int .i64 nn] w (MakesIB w (endsV a n) true 400 3) := by
 obtain ⟨f1, hf1⟩ : ∃ f1, floorV a.1 n = f1 := ⟨_, rfl⟩
 obtain ⟨m2, hm2⟩ : ∃ m2, -a.2 = m2 := ⟨_, rfl⟩
 obtain ⟨f3, hf3⟩ : ∃ f3, floorV m2 n = f3 := ⟨_, rfl⟩
 obtain ⟨f2, hf2⟩ : ∃ f2, -f3 = f2 := ⟨_, rfl⟩
 have he : endsV a n = (f1, f2) := by unfold endsV; rw [hf1, hm2, hf3, hf2]
 rw [he] at o1 o2 ⊢
 have hk2 : cmpI (shiftD (f2 + -f1) n) (2 ^ K) ≤ 0 := by
  unfold knownB at hk
  rw [he] at hk
  exact of_decide_eq_true hk
 have w3 : Wd f3 400 3 := by rw [show f3 = -f2 by omega]; exact Wd.neg o2.wd
 have wm : Wd m2 400 3 := by rw [← hm2]; exact Wd.neg p0h.wd
 have TT := Ho.mk T
 have C1 := Ho.mk (fun (W : World) (g : Bel w W) => (Go.Proofs.YtnbdoidccacdnaaGreatDoor.C2.dFloor (n := n) (nn := nn) W (TT.out.bel g) (p0l.bel g) (by omega) (by omega) (by omega) hnn).mono (wid_makes hf1 o1.wd))
 have C2 := Ho.mk (fun (W : World) (g : Bel w W) => (F1.dFlip (TT.out.bel g) (p0h.bel g) (by omega)).mono (wid_makes hm2 wm))
 have C3 := Ho.mk (fun (W : World) (A : Option Addr) (c : Nat) (g : Bel w W) (h : Dv W A c m2 400 3) => (Go.Proofs.YtnbdoidccacdnaaGreatDoor.C2.dFloor (n := n) (nn := nn) W (TT.out.bel g) h (by omega) (by omega) (by omega) hnn).mono (wid_makes hf3 w3))
 have C4 := Ho.mk (fun (W : World) (A : Option Addr) (c : Nat) (g : Bel w W) (h : Dv W A c f3 400 3) => (F1.dFlip (TT.out.bel g) h (by omega)).mono (wid_makes hf2 o2.wd))
 have HK := Ho.mk hk2
 clear T p0l p0h o1 o2 hk hk2 he hf1 hm2 hf3 hf2 w3 wm
 go_enter Tryz.func192, Tryz.ntmps192
 go_wp2_with fail
 have KB := Ho.mk ((Blk.new w [.bool (dneg a.1), .slice A0 (digs (dm a.1)).length c0, .int .i64 (de a.1), .bool (dneg a.2), .slice B0 (digs (dm a.2)).length d0, .int .i64 (de a.2)] 42).old (.cells #[.bool false, .slice none 0 0, .int .i64 0, .bool false, .slice none 0 0, .int .i64 0] 42))
 have KR := Ho.mk (Blk.new (w.alloc (.cells #[.bool (dneg a.1), .slice A0 (digs (dm a.1)).length c0, .int .i64 (de a.1), .bool (dneg a.2), .slice B0 (digs (dm a.2)).length d0, .int .i64 (de a.2)] 42)) [.bool false, .slice none 0 0, .int .i64 0, .bool false, .slice none 0 0, .int .i64 0] 42)
 rw [World.size_alloc] at KR
 have g0 := Ho.mk (((Bel.refl w).alloc (.cells #[.bool (dneg a.1), .slice A0 (digs (dm a.1)).length c0, .int .i64 (de a.1), .bool (dneg a.2), .slice B0 (digs (dm a.2)).length d0, .int .i64 (de a.2)] 42)).alloc (.cells #[.bool false, .slice none 0 0, .int .i64 0, .bool false, .slice none 0 0, .int .i64 0] 42))
 have hS : ((w.alloc (.cells #[.bool (dneg a.1), .slice A0 (digs (dm a.1)).length c0, .int .i64 (de a.1), .bool (dneg a.2), .slice B0 (digs (dm a.2)).length d0, .int .i64 (de a.2)] 42)).alloc (.cells #[.bool false, .slice none 0 0, .int .i64 0, .bool false, .slice none 0 0, .int .i64 0] 42)).heap.size = w.heap.size + 1 + 1 := by simp only [World.size_alloc]
 generalize ((w.alloc (.cells #[.bool (dneg a.1), .slice A0 (digs (dm a.1)).length c0, .int .i64 (de a.1), .bool (dneg a.2), .slice B0 (digs (dm a.2)).length d0, .int .i64 (de a.2)] 42)).alloc (.cells #[.bool false, .slice none 0 0, .int .i64 0, .bool false, .slice none 0 0, .int .i64 0] 42)) = W at *
 have y0 := KB.out.cell (i := 0) rfl
 have y1 := KB.out.cell (i := 1) rfl
 have y2 := KB.out.cell (i := 2) rfl
 have y3 := KB.out.cell (i := 3) rfl
 have y4 := KB.out.cell (i := 4) rfl
 have y5 := KB.out.cell (i := 5) rfl
 go_upto_region 1 with fail
 clear y0 y1 y2 y3 y4 y5
 have WS := Ho.mk hS
 clear hS
 go_cut [6] (fun s6 wy => ∃ (p : Nat) (A : Option Addr) (c : Nat) (B : Option Addr) (d : Nat), s6 = .pointer (some ⟨p, 0, none⟩) ∧ Ho (Blk wy p 42 [.bool (dneg f1), .slice A (digs (dm f1)).length c, .int .i64 (de f1), .bool (dneg f2), .slice B (digs (dm f2)).length d, .int .i64 (de f2)]) ∧ Ho (Dv wy A c f1 400 3) ∧ Ho (Dv wy B d f2 400 3) ∧ Ho (Bel W wy) ∧ Ho (W.heap.size ≤ p))
 case first =>
  have y0 := KB.out.cell (i := 0) rfl
  have y1 := KB.out.cell (i := 1) rfl
  have y2 := KB.out.cell (i := 2) rfl
  have y3 := KB.out.cell (i := 3) rfl
  have y4 := KB.out.cell (i := 4) rfl
  have y5 := KB.out.cell (i := 5) rfl
  refine wp_region_held_drew (S := fun w' => Bel W w') (by kernel_rfl) (Bel.refl _).drew (fun hHeld => ?_)
  (try dsimp only at hHeld)
  refine rt (i := 0) hHeld ?_
  refine rl (i := 1) (v := ?_) hHeld (fun w hSw => ?_) ?_
  rotate_left
  ·(have z0 := hSw.cell y0; have z1 := hSw.cell y1; have z2 := hSw.cell y2; go_simp; try (with_reducible rfl))
  refine rt (i := 2) hHeld ?_
  refine rt (i := 4) hHeld ?_
  refine rl (i := 5) (v := ?_) hHeld (fun w hSw => ?_) ?_
  rotate_left
  ·(have z0 := hSw.cell y3; have z1 := hSw.cell y4; have z2 := hSw.cell y5; go_simp; try (with_reducible rfl))
  refine rt (i := 7) hHeld ?_
  try simp only [Act.put, List.setIfInBounds_toArray, List.set_cons_zero, List.set_cons_succ]
  refine I6.rc2 (i := 3) (j := 11) (fun K hK => ?_) (fun K hK => ?_)
  ·go_simp
   go_at_call 205
   refine (C1.out _ (g0.out.trans ((Bel.refl W).drew))).mono ?_
   rintro e w1 ⟨A1, c1, rfl, n1, b1⟩
   try go_wp2_with fail
   refine hK.out _ _ (Bel.trans hHeld b1) (fun hHeld => ?_)
   clear hK K
   try simp only [Act.put, List.setIfInBounds_toArray, List.set_cons_zero, List.set_cons_succ]
   refine I6.rc2 (i := 6) (j := 11) (fun K hK => ?_) (fun K hK => ?_)
   ·go_simp
    go_at_call 206
    refine (C2.out _ (g0.out.trans (((Bel.refl W).drew).trans b1))).mono ?_
    rintro e w2 ⟨A2, c2, rfl, n2, b2⟩
    try go_wp2_with fail
    refine hK.out _ _ (Bel.trans hHeld b2) (fun hHeld => ?_)
    clear hK K
    try simp only [Act.put, List.setIfInBounds_toArray, List.set_cons_zero, List.set_cons_succ]
    refine I6.rc2 (i := 8) (j := 11) (fun K hK => ?_) (fun K hK => ?_)
    ·go_simp
     go_at_call 205
     refine (C3.out _ _ _ (g0.out.trans ((((Bel.refl W).drew).trans b1).trans b2)) (n2.bel (Bel.refl w2))).mono ?_
     rintro e w3 ⟨A3, c3, rfl, n3, b3⟩
     try go_wp2_with fail
     refine hK.out _ _ (Bel.trans hHeld b3) (fun hHeld => ?_)
     clear hK K
     try simp only [Act.put, List.setIfInBounds_toArray, List.set_cons_zero, List.set_cons_succ]
     refine I6.rc2 (i := 9) (j := 11) (fun K hK => ?_) (fun K hK => ?_)
     ·go_simp
      go_at_call 206
      refine (C4.out _ _ _ (g0.out.trans (((((Bel.refl W).drew).trans b1).trans b2).trans b3)) (n3.bel (Bel.refl w3))).mono ?_
      rintro e w4 ⟨A4, c4, rfl, n4, b4⟩
      try go_wp2_with fail
      refine hK.out _ _ (Bel.trans hHeld b4) (fun hHeld => ?_)
      clear hK K
      refine rt (i := 10) hHeld ?_
      try simp only [Act.put, List.setIfInBounds_toArray, List.set_cons_zero, List.set_cons_succ]
      refine rc (i := 11) (fun K hK => ?_)
      go_simp
      refine hK.out _ _ (Bel.alloc hHeld _) (fun hHeld => ?_)
      clear hK K
      try simp only [Act.put, List.setIfInBounds_toArray, List.set_cons_zero, List.set_cons_succ]
      have b4le : W.heap.size ≤ (w4).heap.size := ((((((Bel.refl W).drew).trans b1).trans b2).trans b3).trans b4).size
      have NB := Ho.mk (Bel.alloc (((((((Bel.refl W).drew).trans b1).trans b2).trans b3).trans b4)) (.cells #[.bool (dneg f1), .slice A1 (digs (dm f1)).length c1, .int .i64 (de f1), .bool (dneg f2), .slice A4 (digs (dm f2)).length c4, .int .i64 (de f2)] 42))
      have KF := Ho.mk (show Blk (World.alloc (w4) (.cells #[.bool (dneg f1), .slice A1 (digs (dm f1)).length c1, .int .i64 (de f1), .bool (dneg f2), .slice A4 (digs (dm f2)).length c4, .int .i64 (de f2)] 42)) (w4).heap.size 42 [.bool (dneg f1), .slice A1 (digs (dm f1)).length c1, .int .i64 (de f1), .bool (dneg f2), .slice A4 (digs (dm f2)).length c4, .int .i64 (de f2)] from Blk.new (w4) [.bool (dneg f1), .slice A1 (digs (dm f1)).length c1, .int .i64 (de f1), .bool (dneg f2), .slice A4 (digs (dm f2)).length c4, .int .i64 (de f2)] 42)
      have D1 := Ho.mk (n1.bel (((((Bel.refl w1).trans b2).trans b3).trans b4).alloc (.cells #[.bool (dneg f1), .slice A1 (digs (dm f1)).length c1, .int .i64 (de f1), .bool (dneg f2), .slice A4 (digs (dm f2)).length c4, .int .i64 (de f2)] 42)))
      have D2 := Ho.mk (n4.bel ((Bel.refl w4).alloc (.cells #[.bool (dneg f1), .slice A1 (digs (dm f1)).length c1, .int .i64 (de f1), .bool (dneg f2), .slice A4 (digs (dm f2)).length c4, .int .i64 (de f2)] 42)))
      try simp only [Act.put, List.setIfInBounds_toArray, List.set_cons_zero, List.set_cons_succ]
      refine rc (i := 12) (fun K hK => ?_)
      go_simp
      refine hK.out _ _ NB.out (fun hHeld => ?_)
      clear hK K
      generalize hwf : World.alloc (w4) (.cells #[.bool (dneg f1), .slice A1 (digs (dm f1)).length c1, .int .i64 (de f1), .bool (dneg f2), .slice A4 (digs (dm f2)).length c4, .int .i64 (de f2)] 42) = wf at *
      clear hwf
      try simp only [Act.put, List.setIfInBounds_toArray, List.set_cons_zero, List.set_cons_succ]
      refine wpAnyH_done (by kernel_rfl) ?_ _
      go_wp2_with fail
      go_meet
      exact ⟨_, _, _, _, _, rfl, KF, D1, D2, NB, ⟨b4le⟩⟩
     ·go_simp
      refine hK.out _ _ (Bel.alloc hHeld _) (fun hHeld => ?_)
      clear hK K
      try simp only [Act.put, List.setIfInBounds_toArray, List.set_cons_zero, List.set_cons_succ]
      refine rc (i := 9) (fun K hK => ?_)
      go_simp
      go_at_call 206
      refine (C4.out _ _ _ (g0.out.trans ((((((Bel.refl W).drew).trans b1).trans b2).trans b3).alloc (.cells #[.bool false, .slice none 0 0, .int .i64 0, .bool false, .slice none 0 0, .int .i64 0] 42))) (n3.bel ((Bel.refl w3).alloc (.cells #[.bool false, .slice none 0 0, .int .i64 0, .bool false, .slice none 0 0, .int .i64 0] 42)))).mono ?_
      rintro e w4 ⟨A4, c4, rfl, n4, b4⟩
      try go_wp2_with fail
      refine hK.out _ _ (Bel.trans hHeld b4) (fun hHeld => ?_)
      clear hK K
      refine rt (i := 10) hHeld ?_
      try simp only [Act.put, List.setIfInBounds_toArray, List.set_cons_zero, List.set_cons_succ]
      have b4le : W.heap.size ≤ (w3).heap.size := (((((Bel.refl W).drew).trans b1).trans b2).trans b3).size
      have K4 := Ho.mk (show Blk (w4) (w3).heap.size 42 [.bool false, .slice none 0 0, .int .i64 0, .bool false, .slice none 0 0, .int .i64 0] from (Blk.new (w3) [.bool false, .slice none 0 0, .int .i64 0, .bool false, .slice none 0 0, .int .i64 0] 42).bel ((Bel.refl (w3.alloc (.cells #[.bool false, .slice none 0 0, .int .i64 0, .bool false, .slice none 0 0, .int .i64 0] 42))).trans b4))
      have y40 := K4.out.cell (i := 0) rfl
      have z40 := K4.out.free 0
      have y41 := K4.out.cell (i := 1) rfl
      have z41 := K4.out.free 1
      have y42 := K4.out.cell (i := 2) rfl
      have z42 := K4.out.free 2
      have y43 := K4.out.cell (i := 3) rfl
      have z43 := K4.out.free 3
      have y44 := K4.out.cell (i := 4) rfl
      have z44 := K4.out.free 4
      have y45 := K4.out.cell (i := 5) rfl
      have z45 := K4.out.free 5
      have NB := Ho.mk (bel_set6 (((((((Bel.refl W).drew).trans b1).trans b2).trans b3).alloc (.cells #[.bool false, .slice none 0 0, .int .i64 0, .bool false, .slice none 0 0, .int .i64 0] 42)).trans b4) b4le (.bool (dneg f1)) (.slice A1 (digs (dm f1)).length c1) (.int .i64 (de f1)) (.bool (dneg f2)) (.slice A4 (digs (dm f2)).length c4) (.int .i64 (de f2)))
      have KF := Ho.mk (blk_set6 K4.out (.bool (dneg f1)) (.slice A1 (digs (dm f1)).length c1) (.int .i64 (de f1)) (.bool (dneg f2)) (.slice A4 (digs (dm f2)).length c4) (.int .i64 (de f2)))
      have D1 := Ho.mk (dv_set6 (n1.bel (((((Bel.refl w1).trans b2).trans b3).alloc (.cells #[.bool false, .slice none 0 0, .int .i64 0, .bool false, .slice none 0 0, .int .i64 0] 42)).trans b4)) K4.out (.bool (dneg f1)) (.slice A1 (digs (dm f1)).length c1) (.int .i64 (de f1)) (.bool (dneg f2)) (.slice A4 (digs (dm f2)).length c4) (.int .i64 (de f2)))
      have D2 := Ho.mk (dv_set6 (n4.bel (Bel.refl w4)) K4.out (.bool (dneg f1)) (.slice A1 (digs (dm f1)).length c1) (.int .i64 (de f1)) (.bool (dneg f2)) (.slice A4 (digs (dm f2)).length c4) (.int .i64 (de f2)))
      try simp only [Act.put, List.setIfInBounds_toArray, List.set_cons_zero, List.set_cons_succ]
      refine rc (i := 12) (fun K hK => ?_)
      go_simp
      refine hK.out _ _ NB.out (fun hHeld => ?_)
      clear hK K
      clear y40 z40 y41 z41 y42 z42 y43 z43 y44 z44 y45 z45
      obtain ⟨wf, hwf⟩ : ∃ wf, set6 (w4) (w3).heap.size (.bool (dneg f1)) (.slice A1 (digs (dm f1)).length c1) (.int .i64 (de f1)) (.bool (dneg f2)) (.slice A4 (digs (dm f2)).length c4) (.int .i64 (de f2)) = wf := ⟨_, rfl⟩
      try rw [hwf] at NB
      try rw [hwf] at KF
      try rw [hwf] at D1
      try rw [hwf] at D2
      clear hHeld
      have hHeld := NB.out
      unfold set6 at hwf
      try rw [hwf]
      clear hwf
      try simp only [Act.put, List.setIfInBounds_toArray, List.set_cons_zero, List.set_cons_succ]
      refine wpAnyH_done (by kernel_rfl) ?_ _
      go_wp2_with fail
      go_meet
      exact ⟨_, _, _, _, _, rfl, KF, D1, D2, NB, ⟨b4le⟩⟩
    ·go_simp
     refine hK.out _ _ (Bel.alloc hHeld _) (fun hHeld => ?_)
     clear hK K
     try simp only [Act.put, List.setIfInBounds_toArray, List.set_cons_zero, List.set_cons_succ]
     refine rc (i := 8) (fun K hK => ?_)
     go_simp
     go_at_call 205
     refine (C3.out _ _ _ (g0.out.trans (((((Bel.refl W).drew).trans b1).trans b2).alloc (.cells #[.bool false, .slice none 0 0, .int .i64 0, .bool false, .slice none 0 0, .int .i64 0] 42))) (n2.bel ((Bel.refl w2).alloc (.cells #[.bool false, .slice none 0 0, .int .i64 0, .bool false, .slice none 0 0, .int .i64 0] 42)))).mono ?_
     rintro e w3 ⟨A3, c3, rfl, n3, b3⟩
     try go_wp2_with fail
     refine hK.out _ _ (Bel.trans hHeld b3) (fun hHeld => ?_)
     clear hK K
     try simp only [Act.put, List.setIfInBounds_toArray, List.set_cons_zero, List.set_cons_succ]
     refine rc (i := 9) (fun K hK => ?_)
     go_simp
     go_at_call 206
     refine (C4.out _ _ _ (g0.out.trans ((((((Bel.refl W).drew).trans b1).trans b2).alloc (.cells #[.bool false, .slice none 0 0, .int .i64 0, .bool false, .slice none 0 0, .int .i64 0] 42)).trans b3)) (n3.bel (Bel.refl w3))).mono ?_
     rintro e w4 ⟨A4, c4, rfl, n4, b4⟩
     try go_wp2_with fail
     refine hK.out _ _ (Bel.trans hHeld b4) (fun hHeld => ?_)
     clear hK K
     refine rt (i := 10) hHeld ?_
     try simp only [Act.put, List.setIfInBounds_toArray, List.set_cons_zero, List.set_cons_succ]
     have b4le : W.heap.size ≤ (w2).heap.size := ((((Bel.refl W).drew).trans b1).trans b2).size
     have K4 := Ho.mk (show Blk (w4) (w2).heap.size 42 [.bool false, .slice none 0 0, .int .i64 0, .bool false, .slice none 0 0, .int .i64 0] from (Blk.new (w2) [.bool false, .slice none 0 0, .int .i64 0, .bool false, .slice none 0 0, .int .i64 0] 42).bel (((Bel.refl (w2.alloc (.cells #[.bool false, .slice none 0 0, .int .i64 0, .bool false, .slice none 0 0, .int .i64 0] 42))).trans b3).trans b4))
     have y40 := K4.out.cell (i := 0) rfl
     have z40 := K4.out.free 0
     have y41 := K4.out.cell (i := 1) rfl
     have z41 := K4.out.free 1
     have y42 := K4.out.cell (i := 2) rfl
     have z42 := K4.out.free 2
     have y43 := K4.out.cell (i := 3) rfl
     have z43 := K4.out.free 3
     have y44 := K4.out.cell (i := 4) rfl
     have z44 := K4.out.free 4
     have y45 := K4.out.cell (i := 5) rfl
     have z45 := K4.out.free 5
     have NB := Ho.mk (bel_set6 (((((((Bel.refl W).drew).trans b1).trans b2).alloc (.cells #[.bool false, .slice none 0 0, .int .i64 0, .bool false, .slice none 0 0, .int .i64 0] 42)).trans b3).trans b4) b4le (.bool (dneg f1)) (.slice A1 (digs (dm f1)).length c1) (.int .i64 (de f1)) (.bool (dneg f2)) (.slice A4 (digs (dm f2)).length c4) (.int .i64 (de f2)))
     have KF := Ho.mk (blk_set6 K4.out (.bool (dneg f1)) (.slice A1 (digs (dm f1)).length c1) (.int .i64 (de f1)) (.bool (dneg f2)) (.slice A4 (digs (dm f2)).length c4) (.int .i64 (de f2)))
     have D1 := Ho.mk (dv_set6 (n1.bel (((((Bel.refl w1).trans b2).alloc (.cells #[.bool false, .slice none 0 0, .int .i64 0, .bool false, .slice none 0 0, .int .i64 0] 42)).trans b3).trans b4)) K4.out (.bool (dneg f1)) (.slice A1 (digs (dm f1)).length c1) (.int .i64 (de f1)) (.bool (dneg f2)) (.slice A4 (digs (dm f2)).length c4) (.int .i64 (de f2)))
     have D2 := Ho.mk (dv_set6 (n4.bel (Bel.refl w4)) K4.out (.bool (dneg f1)) (.slice A1 (digs (dm f1)).length c1) (.int .i64 (de f1)) (.bool (dneg f2)) (.slice A4 (digs (dm f2)).length c4) (.int .i64 (de f2)))
     try simp only [Act.put, List.setIfInBounds_toArray, List.set_cons_zero, List.set_cons_succ]
     refine rc (i := 12) (fun K hK => ?_)
     go_simp
     refine hK.out _ _ NB.out (fun hHeld => ?_)
     clear hK K
     clear y40 z40 y41 z41 y42 z42 y43 z43 y44 z44 y45 z45
     obtain ⟨wf, hwf⟩ : ∃ wf, set6 (w4) (w2).heap.size (.bool (dneg f1)) (.slice A1 (digs (dm f1)).length c1) (.int .i64 (de f1)) (.bool (dneg f2)) (.slice A4 (digs (dm f2)).length c4) (.int .i64 (de f2)) = wf := ⟨_, rfl⟩
     try rw [hwf] at NB
     try rw [hwf] at KF
     try rw [hwf] at D1
     try rw [hwf] at D2
     clear hHeld
     have hHeld := NB.out
     unfold set6 at hwf
     try rw [hwf]
     clear hwf
     try simp only [Act.put, List.setIfInBounds_toArray, List.set_cons_zero, List.set_cons_succ]
     refine wpAnyH_done (by kernel_rfl) ?_ _
     go_wp2_with fail
     go_meet
     exact ⟨_, _, _, _, _, rfl, KF, D1, D2, NB, ⟨b4le⟩⟩
   ·go_simp
    refine hK.out _ _ (Bel.alloc hHeld _) (fun hHeld => ?_)
    clear hK K
    try simp only [Act.put, List.setIfInBounds_toArray, List.set_cons_zero, List.set_cons_succ]
    refine rc (i := 6) (fun K hK => ?_)
    go_simp
    go_at_call 206
    refine (C2.out _ (g0.out.trans ((((Bel.refl W).drew).trans b1).alloc (.cells #[.bool false, .slice none 0 0, .int .i64 0, .bool false, .slice none 0 0, .int .i64 0] 42)))).mono ?_
    rintro e w2 ⟨A2, c2, rfl, n2, b2⟩
    try go_wp2_with fail
    refine hK.out _ _ (Bel.trans hHeld b2) (fun hHeld => ?_)
    clear hK K
    try simp only [Act.put, List.setIfInBounds_toArray, List.set_cons_zero, List.set_cons_succ]
    refine rc (i := 8) (fun K hK => ?_)
    go_simp
    go_at_call 205
    refine (C3.out _ _ _ (g0.out.trans (((((Bel.refl W).drew).trans b1).alloc (.cells #[.bool false, .slice none 0 0, .int .i64 0, .bool false, .slice none 0 0, .int .i64 0] 42)).trans b2)) (n2.bel (Bel.refl w2))).mono ?_
    rintro e w3 ⟨A3, c3, rfl, n3, b3⟩
    try go_wp2_with fail
    refine hK.out _ _ (Bel.trans hHeld b3) (fun hHeld => ?_)
    clear hK K
    try simp only [Act.put, List.setIfInBounds_toArray, List.set_cons_zero, List.set_cons_succ]
    refine rc (i := 9) (fun K hK => ?_)
    go_simp
    go_at_call 206
    refine (C4.out _ _ _ (g0.out.trans ((((((Bel.refl W).drew).trans b1).alloc (.cells #[.bool false, .slice none 0 0, .int .i64 0, .bool false, .slice none 0 0, .int .i64 0] 42)).trans b2).trans b3)) (n3.bel (Bel.refl w3))).mono ?_
    rintro e w4 ⟨A4, c4, rfl, n4, b4⟩
    try go_wp2_with fail
    refine hK.out _ _ (Bel.trans hHeld b4) (fun hHeld => ?_)
    clear hK K
    refine rt (i := 10) hHeld ?_
    try simp only [Act.put, List.setIfInBounds_toArray, List.set_cons_zero, List.set_cons_succ]
    have b4le : W.heap.size ≤ (w1).heap.size := (((Bel.refl W).drew).trans b1).size
    have K4 := Ho.mk (show Blk (w4) (w1).heap.size 42 [.bool false, .slice none 0 0, .int .i64 0, .bool false, .slice none 0 0, .int .i64 0] from (Blk.new (w1) [.bool false, .slice none 0 0, .int .i64 0, .bool false, .slice none 0 0, .int .i64 0] 42).bel ((((Bel.refl (w1.alloc (.cells #[.bool false, .slice none 0 0, .int .i64 0, .bool false, .slice none 0 0, .int .i64 0] 42))).trans b2).trans b3).trans b4))
    have y40 := K4.out.cell (i := 0) rfl
    have z40 := K4.out.free 0
    have y41 := K4.out.cell (i := 1) rfl
    have z41 := K4.out.free 1
    have y42 := K4.out.cell (i := 2) rfl
    have z42 := K4.out.free 2
    have y43 := K4.out.cell (i := 3) rfl
    have z43 := K4.out.free 3
    have y44 := K4.out.cell (i := 4) rfl
    have z44 := K4.out.free 4
    have y45 := K4.out.cell (i := 5) rfl
    have z45 := K4.out.free 5
    have NB := Ho.mk (bel_set6 (((((((Bel.refl W).drew).trans b1).alloc (.cells #[.bool false, .slice none 0 0, .int .i64 0, .bool false, .slice none 0 0, .int .i64 0] 42)).trans b2).trans b3).trans b4) b4le (.bool (dneg f1)) (.slice A1 (digs (dm f1)).length c1) (.int .i64 (de f1)) (.bool (dneg f2)) (.slice A4 (digs (dm f2)).length c4) (.int .i64 (de f2)))
    have KF := Ho.mk (blk_set6 K4.out (.bool (dneg f1)) (.slice A1 (digs (dm f1)).length c1) (.int .i64 (de f1)) (.bool (dneg f2)) (.slice A4 (digs (dm f2)).length c4) (.int .i64 (de f2)))
    have D1 := Ho.mk (dv_set6 (n1.bel (((((Bel.refl w1).alloc (.cells #[.bool false, .slice none 0 0, .int .i64 0, .bool false, .slice none 0 0, .int .i64 0] 42)).trans b2).trans b3).trans b4)) K4.out (.bool (dneg f1)) (.slice A1 (digs (dm f1)).length c1) (.int .i64 (de f1)) (.bool (dneg f2)) (.slice A4 (digs (dm f2)).length c4) (.int .i64 (de f2)))
    have D2 := Ho.mk (dv_set6 (n4.bel (Bel.refl w4)) K4.out (.bool (dneg f1)) (.slice A1 (digs (dm f1)).length c1) (.int .i64 (de f1)) (.bool (dneg f2)) (.slice A4 (digs (dm f2)).length c4) (.int .i64 (de f2)))
    try simp only [Act.put, List.setIfInBounds_toArray, List.set_cons_zero, List.set_cons_succ]
    refine rc (i := 12) (fun K hK => ?_)
    go_simp
    refine hK.out _ _ NB.out (fun hHeld => ?_)
    clear hK K
    clear y40 z40 y41 z41 y42 z42 y43 z43 y44 z44 y45 z45
    obtain ⟨wf, hwf⟩ : ∃ wf, set6 (w4) (w1).heap.size (.bool (dneg f1)) (.slice A1 (digs (dm f1)).length c1) (.int .i64 (de f1)) (.bool (dneg f2)) (.slice A4 (digs (dm f2)).length c4) (.int .i64 (de f2)) = wf := ⟨_, rfl⟩
    try rw [hwf] at NB
    try rw [hwf] at KF
    try rw [hwf] at D1
    try rw [hwf] at D2
    clear hHeld
    have hHeld := NB.out
    unfold set6 at hwf
    try rw [hwf]
    clear hwf
    try simp only [Act.put, List.setIfInBounds_toArray, List.set_cons_zero, List.set_cons_succ]
    refine wpAnyH_done (by kernel_rfl) ?_ _
    go_wp2_with fail
    go_meet
    exact ⟨_, _, _, _, _, rfl, KF, D1, D2, NB, ⟨b4le⟩⟩
  ·go_simp
   refine hK.out _ _ (Bel.alloc hHeld _) (fun hHeld => ?_)
   clear hK K
   try simp only [Act.put, List.setIfInBounds_toArray, List.set_cons_zero, List.set_cons_succ]
   refine rc (i := 3) (fun K hK => ?_)
   go_simp
   go_at_call 205
   refine (C1.out _ (g0.out.trans (((Bel.refl W).drew).alloc (.cells #[.bool false, .slice none 0 0, .int .i64 0, .bool false, .slice none 0 0, .int .i64 0] 42)))).mono ?_
   rintro e w1 ⟨A1, c1, rfl, n1, b1⟩
   try go_wp2_with fail
   refine hK.out _ _ (Bel.trans hHeld b1) (fun hHeld => ?_)
   clear hK K
   try simp only [Act.put, List.setIfInBounds_toArray, List.set_cons_zero, List.set_cons_succ]
   refine rc (i := 6) (fun K hK => ?_)
   go_simp
   go_at_call 206
   refine (C2.out _ (g0.out.trans ((((Bel.refl W).drew).alloc (.cells #[.bool false, .slice none 0 0, .int .i64 0, .bool false, .slice none 0 0, .int .i64 0] 42)).trans b1))).mono ?_
   rintro e w2 ⟨A2, c2, rfl, n2, b2⟩
   try go_wp2_with fail
   refine hK.out _ _ (Bel.trans hHeld b2) (fun hHeld => ?_)
   clear hK K
   try simp only [Act.put, List.setIfInBounds_toArray, List.set_cons_zero, List.set_cons_succ]
   refine rc (i := 8) (fun K hK => ?_)
   go_simp
   go_at_call 205
   refine (C3.out _ _ _ (g0.out.trans (((((Bel.refl W).drew).alloc (.cells #[.bool false, .slice none 0 0, .int .i64 0, .bool false, .slice none 0 0, .int .i64 0] 42)).trans b1).trans b2)) (n2.bel (Bel.refl w2))).mono ?_
   rintro e w3 ⟨A3, c3, rfl, n3, b3⟩
   try go_wp2_with fail
   refine hK.out _ _ (Bel.trans hHeld b3) (fun hHeld => ?_)
   clear hK K
   try simp only [Act.put, List.setIfInBounds_toArray, List.set_cons_zero, List.set_cons_succ]
   refine rc (i := 9) (fun K hK => ?_)
   go_simp
   go_at_call 206
   refine (C4.out _ _ _ (g0.out.trans ((((((Bel.refl W).drew).alloc (.cells #[.bool false, .slice none 0 0, .int .i64 0, .bool false, .slice none 0 0, .int .i64 0] 42)).trans b1).trans b2).trans b3)) (n3.bel (Bel.refl w3))).mono ?_
   rintro e w4 ⟨A4, c4, rfl, n4, b4⟩
   try go_wp2_with fail
   refine hK.out _ _ (Bel.trans hHeld b4) (fun hHeld => ?_)
   clear hK K
   refine rt (i := 10) hHeld ?_
   try simp only [Act.put, List.setIfInBounds_toArray, List.set_cons_zero, List.set_cons_succ]
   have b4le : W.heap.size ≤ W.heap.size := ((Bel.refl W).drew).size
   have K4 := Ho.mk (show Blk (w4) W.heap.size 42 [.bool false, .slice none 0 0, .int .i64 0, .bool false, .slice none 0 0, .int .i64 0] from (Blk.new (W.drew) [.bool false, .slice none 0 0, .int .i64 0, .bool false, .slice none 0 0, .int .i64 0] 42).bel (((((Bel.refl (W.drew.alloc (.cells #[.bool false, .slice none 0 0, .int .i64 0, .bool false, .slice none 0 0, .int .i64 0] 42))).trans b1).trans b2).trans b3).trans b4))
   have y40 := K4.out.cell (i := 0) rfl
   have z40 := K4.out.free 0
   have y41 := K4.out.cell (i := 1) rfl
   have z41 := K4.out.free 1
   have y42 := K4.out.cell (i := 2) rfl
   have z42 := K4.out.free 2
   have y43 := K4.out.cell (i := 3) rfl
   have z43 := K4.out.free 3
   have y44 := K4.out.cell (i := 4) rfl
   have z44 := K4.out.free 4
   have y45 := K4.out.cell (i := 5) rfl
   have z45 := K4.out.free 5
   have NB := Ho.mk (bel_set6 (((((((Bel.refl W).drew).alloc (.cells #[.bool false, .slice none 0 0, .int .i64 0, .bool false, .slice none 0 0, .int .i64 0] 42)).trans b1).trans b2).trans b3).trans b4) b4le (.bool (dneg f1)) (.slice A1 (digs (dm f1)).length c1) (.int .i64 (de f1)) (.bool (dneg f2)) (.slice A4 (digs (dm f2)).length c4) (.int .i64 (de f2)))
   have KF := Ho.mk (blk_set6 K4.out (.bool (dneg f1)) (.slice A1 (digs (dm f1)).length c1) (.int .i64 (de f1)) (.bool (dneg f2)) (.slice A4 (digs (dm f2)).length c4) (.int .i64 (de f2)))
   have D1 := Ho.mk (dv_set6 (n1.bel ((((Bel.refl w1).trans b2).trans b3).trans b4)) K4.out (.bool (dneg f1)) (.slice A1 (digs (dm f1)).length c1) (.int .i64 (de f1)) (.bool (dneg f2)) (.slice A4 (digs (dm f2)).length c4) (.int .i64 (de f2)))
   have D2 := Ho.mk (dv_set6 (n4.bel (Bel.refl w4)) K4.out (.bool (dneg f1)) (.slice A1 (digs (dm f1)).length c1) (.int .i64 (de f1)) (.bool (dneg f2)) (.slice A4 (digs (dm f2)).length c4) (.int .i64 (de f2)))
   try simp only [Act.put, List.setIfInBounds_toArray, List.set_cons_zero, List.set_cons_succ]
   refine rc (i := 12) (fun K hK => ?_)
   go_simp
   refine hK.out _ _ NB.out (fun hHeld => ?_)
   clear hK K
   clear y40 z40 y41 z41 y42 z42 y43 z43 y44 z44 y45 z45
   obtain ⟨wf, hwf⟩ : ∃ wf, set6 (w4) W.heap.size (.bool (dneg f1)) (.slice A1 (digs (dm f1)).length c1) (.int .i64 (de f1)) (.bool (dneg f2)) (.slice A4 (digs (dm f2)).length c4) (.int .i64 (de f2)) = wf := ⟨_, rfl⟩
   try rw [hwf] at NB
   try rw [hwf] at KF
   try rw [hwf] at D1
   try rw [hwf] at D2
   clear hHeld
   have hHeld := NB.out
   unfold set6 at hwf
   try rw [hwf]
   clear hwf
   try simp only [Act.put, List.setIfInBounds_toArray, List.set_cons_zero, List.set_cons_succ]
   refine wpAnyH_done (by kernel_rfl) ?_ _
   go_wp2_with fail
   go_meet
   exact ⟨_, _, _, _, _, rfl, KF, D1, D2, NB, ⟨b4le⟩⟩
 case rest =>
  obtain ⟨p, A, c, B, d, rfl, KO, D1, D2, BO, PF⟩ := hcut
  have gO := Ho.mk (g0.out.trans BO.out)
  have KR2 := Ho.mk (KR.out.bel BO.out)
  have hp : p ≠ w.heap.size + 1 := by have h1 := KR.out.lt; have h2 := PF.out; omega
  have y0 := KO.out.cell (i := 0) rfl
  have y1 := KO.out.cell (i := 1) rfl
  have y2 := KO.out.cell (i := 2) rfl
  have y3 := KO.out.cell (i := 3) rfl
  have y4 := KO.out.cell (i := 4) rfl
  have y5 := KO.out.cell (i := 5) rfl
  go_wp2_with fail
  (with_reducible refine (I1.dWide (a := (f1, f2)) _ (TT.out.bel gO.out) D1.out D2.out (by omega) (by omega)).mono ?_); rintro e w5 ⟨A5, c5, rfl, n5, b5⟩
  go_wp2_with fail
  (with_reducible refine (F1.dShift (TT.out.bel (gO.out.trans b5)) n5 nn 200 (by omega) (by omega) (by omega) (by omega)).mono ?_); rintro e w6 ⟨A6, c6, rfl, n6, b6⟩
  rw [← hnn] at n6
  have KG := Ho.mk (Blk.new w6 [.bool (dneg (shiftD (f2 + -f1) n)), .slice A6 (digs (dm (shiftD (f2 + -f1) n))).length c6, .int .i64 (de (shiftD (f2 + -f1) n))] 40)
  have b7 := ((b5.trans b6).alloc (.cells #[.bool (dneg (shiftD (f2 + -f1) n)), .slice A6 (digs (dm (shiftD (f2 + -f1) n))).length c6, .int .i64 (de (shiftD (f2 + -f1) n))] 40))
  have KO2 := Ho.mk (KO.out.bel b7)
  have KR3 := Ho.mk (KR2.out.bel b7)
  have D1 := Ho.mk (D1.out.bel b7)
  have D2 := Ho.mk (D2.out.bel b7)
  have N6 := Ho.mk (n6.bel ((Bel.refl w6).alloc (.cells #[.bool (dneg (shiftD (f2 + -f1) n)), .slice A6 (digs (dm (shiftD (f2 + -f1) n))).length c6, .int .i64 (de (shiftD (f2 + -f1) n))] 40)))
  have gX := Ho.mk (gO.out.trans b7)
  have hg : w6.heap.size ≠ w.heap.size + 1 := by have h1 := KR3.out.lt; have h2 := KR2.out.lt; have h3 := (b5.trans b6).size; omega
  clear y0 y1 y2 y3 y4 y5 n5 n6 b5 b6 b7 gO KO KR2 KR KB
  subst hnn
  go_upto_region 3 with fail
  generalize w6.alloc (.cells #[.bool (dneg (shiftD (f2 + -f1) n)), .slice A6 (digs (dm (shiftD (f2 + -f1) n))).length c6, .int .i64 (de (shiftD (f2 + -f1) n))] 40) = w7 at *
  generalize w6.heap.size = bg at *
  obtain ⟨r, hr⟩ : ∃ r, cmpI (shiftD (f2 + -f1) n) (2 ^ Dp.K) = r := ⟨_, rfl⟩
  have hr0 : r ≤ 0 := by rw [← hr]; exact HK.out
  have HR := Ho.mk hr
  clear hr
  refine wp_region_held_drew (S := fun w' => Gr (w.heap.size + 1) w7 w') (by kernel_rfl) (Gr.refl _ _).drew (fun hHeld => ?_)
  (try dsimp only at hHeld)
  refine rl (i := 0) (v := ?_) hHeld (fun w hSw => ?_) ?_
  rotate_left
  ·(have KZ := hSw.blk KO2.out hp; have z0 := KZ.cell (i := 0) rfl; have z1 := KZ.cell (i := 1) rfl; have z2 := KZ.cell (i := 2) rfl; have z3 := KZ.cell (i := 3) rfl; have z4 := KZ.cell (i := 4) rfl; have z5 := KZ.cell (i := 5) rfl; go_simp; try (with_reducible rfl))
  refine rl (i := 1) (v := ?_) hHeld (fun w hSw => ?_) ?_
  rotate_left
  ·(have KZ := hSw.blk KG.out hg; have z0 := KZ.cell (i := 0) rfl; have z1 := KZ.cell (i := 1) rfl; have z2 := KZ.cell (i := 2) rfl; go_simp; try (with_reducible rfl))
  try simp only [Act.put, List.setIfInBounds_toArray, List.set_cons_zero, List.set_cons_succ]
  refine rc (i := 2) (fun K hK => ?_)
  go_simp
  go_at_call 210
  refine (F0.dOf1 (TT.out.bel gX.out.drew)).mono ?_
  rintro e w8 ⟨A8, c8, rfl, n8, b8⟩
  try go_wp2_with fail
  refine hK.out _ _ (hHeld.trans (b8.gr _)) (fun hHeld => ?_)
  clear hK K
  try simp only [Act.put, List.setIfInBounds_toArray, List.set_cons_zero, List.set_cons_succ]
  refine rc (i := 3) (fun K hK => ?_)
  go_simp
  go_at_call 209
  refine (F1.dCmp (TT.out.bel (gX.out.drew.trans b8)) (N6.out.bel ((Bel.refl w7).drew.trans b8)) n8 (by omega) (by omega) HR.out).mono ?_
  rintro e w9 ⟨rfl, b9⟩
  try go_wp2_with fail
  refine hK.out _ _ (hHeld.trans (b9.gr _)) (fun hHeld => ?_)
  clear hK K
  refine rt (i := 4) hHeld ?_
  have bz := ((Bel.refl w7).drew.trans b8).trans b9
  have KR4 := Ho.mk (KR3.out.bel bz)
  have gz := Ho.mk (gX.out.trans bz)
  have D3 := Ho.mk (D1.out.bel bz)
  have D4 := Ho.mk (D2.out.bel bz)
  clear n8 b8 b9 bz
  have y0 := KR4.out.cell (i := 0) rfl
  have y1 := KR4.out.cell (i := 1) rfl
  have y2 := KR4.out.cell (i := 2) rfl
  have y3 := KR4.out.cell (i := 3) rfl
  have y4 := KR4.out.cell (i := 4) rfl
  have y5 := KR4.out.cell (i := 5) rfl
  have z0 := KR4.out.free 0
  have z1 := KR4.out.free 1
  have z2 := KR4.out.free 2
  have z3 := KR4.out.free 3
  have z4 := KR4.out.free 4
  have z5 := KR4.out.free 5
  try simp only [Act.put, List.setIfInBounds_toArray, List.set_cons_zero, List.set_cons_succ]
  refine rc (i := 5) (fun K hK => ?_)
  go_simp
  refine hK.out _ _ ((((((hHeld.set 0 _).set 1 _).set 2 _).set 3 _).set 4 _).set 5 _) (fun hHeld => ?_)
  clear hK K
  refine rt (i := 6) hHeld ?_
  try simp only [Act.put, List.setIfInBounds_toArray, List.set_cons_zero, List.set_cons_succ]
  refine wpAnyH_done (by kernel_rfl) ?_ _
  go_wp2
  exact I0.gives_endIB (fn := Tryz.f192) (i := (f1, f2)) (ok := true) rfl rfl rfl gz.out (by omega) KR4.out D3.out D4.out
end C8
namespace C9
open Go Go.RowKit Go.Proofs Go.Proofs.YtnbdoidccacdnaaGreatDoor Ow Pl Dp Dt D3 F1 T0 I0 V1 T1 U0 U1
open C0 C6
attribute [local go_sem ↓] Go.wp_at_zero Go.wp_at_succ
theorem run_fieldQ (a b : Int) (w : World) : (Instr.field 79 (.agg #[.int .i64 a, .int .i64 b]) 1).run Tryz.prog w = .ok (.int .i64 b) w := by
 have hu : Tryz.prog.underlying 79 = some (.struct (Tryz.prog.fieldsOf 79)) := by kernel_rfl
 have hf : ((Tryz.prog.fieldsOf 79)[1]?).map (fun f => (f.type, f.offset)) = some (3, 1) := by kernel_rfl
 have hp : Tryz.prog.plainKey 3 = true := by kernel_rfl
 obtain ⟨f, hf1, hf2⟩ := Option.map_eq_some_iff.1 hf
 simp only [Prod.mk.injEq] at hf2
 have hpt : (part 3 #[Value.int .i64 a, .int .i64 b] 1).run Tryz.prog w = .ok (.int .i64 b) w := run_part_plain w hp rfl
 simp [Instr.field, run_underlying hu, hf1, hf2.1, hf2.2, asAgg, Sem.run_bind, hpt, Result.andThen]
theorem dCos1 (p : Pt) (w : World) (A B C D : Option Addr) (a b c d : Nat) (h1 : Dv w A a p.1.1 400 3) (h2 : Dv w B b p.1.2 400 3) (h3 : Dv w C c p.2.1 400 3) (h4 : Dv w D d p.2.2 400 3) :
  Calls Tryz.prog 183 #[.agg #[.bool (dneg p.1.1), .slice A (digs (dm p.1.1)).length a, .int .i64 (de p.1.1), .bool (dneg p.1.2), .slice B (digs (dm p.1.2)).length b, .int .i64 (de p.1.2), .bool (dneg p.2.1), .slice C (digs (dm p.2.1)).length c, .int .i64 (de p.2.1), .bool (dneg p.2.2), .slice D (digs (dm p.2.2)).length d, .int .i64 (de p.2.2)]] w (MakesI w p.1 400 3) := by
 have D1 := Ho.mk h1
 have D2 := Ho.mk h2
 clear h1 h2 h3 h4
 go_enter Tryz.func183, Tryz.ntmps183
 go_wp2
 exact bodyPost_ret (v := .agg #[.bool (dneg p.1.1), .slice A (digs (dm p.1.1)).length a, .int .i64 (de p.1.1), .bool (dneg p.1.2), .slice B (digs (dm p.1.2)).length b, .int .i64 (de p.1.2)]) (by simp [results, Tryz.f183, go_sem]) rfl ⟨_, _, _, _, rfl, D1.out.bel (((Bel.refl w).alloc _).alloc _), D2.out.bel (((Bel.refl w).alloc _).alloc _), ((Bel.refl w).alloc _).alloc _⟩
theorem dSin1 (p : Pt) (w : World) (A B C D : Option Addr) (a b c d : Nat) (h1 : Dv w A a p.1.1 400 3) (h2 : Dv w B b p.1.2 400 3) (h3 : Dv w C c p.2.1 400 3) (h4 : Dv w D d p.2.2 400 3) :
  Calls Tryz.prog 184 #[.agg #[.bool (dneg p.1.1), .slice A (digs (dm p.1.1)).length a, .int .i64 (de p.1.1), .bool (dneg p.1.2), .slice B (digs (dm p.1.2)).length b, .int .i64 (de p.1.2), .bool (dneg p.2.1), .slice C (digs (dm p.2.1)).length c, .int .i64 (de p.2.1), .bool (dneg p.2.2), .slice D (digs (dm p.2.2)).length d, .int .i64 (de p.2.2)]] w (MakesI w p.2 400 3) := by
 have D1 := Ho.mk h3
 have D2 := Ho.mk h4
 clear h1 h2 h3 h4
 go_enter Tryz.func184, Tryz.ntmps184
 go_wp2
 exact bodyPost_ret (v := .agg #[.bool (dneg p.2.1), .slice C (digs (dm p.2.1)).length c, .int .i64 (de p.2.1), .bool (dneg p.2.2), .slice D (digs (dm p.2.2)).length d, .int .i64 (de p.2.2)]) (by simp [results, Tryz.f184, go_sem]) rfl ⟨_, _, _, _, rfl, D1.out.bel (((Bel.refl w).alloc _).alloc _), D2.out.bel (((Bel.refl w).alloc _).alloc _), ((Bel.refl w).alloc _).alloc _⟩
theorem mulD_zero (v : Int) : mulD 0 v = 0 := by unfold mulD; simp
theorem imul_zero (h : Iv) : imul (0, 0) h = (0, 0) := by
 unfold imul
 simp only [mulD_zero]
 rfl
theorem eighth_alike (w : Nat) : (restP 1 3 w 1).2 = (restP 1 3 w 1).1 := by
 show (turned (one, (0, 0)) (halvesP w 0) w).2 = (turned (one, (0, 0)) (halvesP w 0) w).1
 unfold turned
 have e : (halvesP w 0).2 = (halvesP w 0).1 := rfl
 rw [e]
 simp only [imul_zero]
 congr 1
 unfold iadd iflip
 simp
theorem dOfRow {k Q cw sw w : Nat} {ki Qi wi : Int} (W : World) (T : Tab W) (hm : (k, cw, sw) ∈ T1.rowAt Q) (hQ : Q ≤ 9) (hk : (k : Int) = ki) (hQi : (Q : Int) = Qi) (hw : w = 150 + 2 * Q) (hwi : (w : Int) = wi) :
  Calls Tryz.prog 193 #[.agg #[.int .i64 ki, .int .i64 Qi], .int .i64 wi] W (MakesP W (restP k Q w (Q - 2)) 400 3) := by
 obtain ⟨h1, h2, h3, h4, h5⟩ := row_self hQ hm
 have EN := rest_ok (rowAt_ok Q hm)
 subst hw
 rcases h3 with h3 | ⟨h3, rfl, rfl⟩
 ·have := C7.of_0 (s := ((splitT k Q).1, (k, Q))) W T hk hQi hQ (by rw [← h2]) h3 hQ h4 h5 (by omega) hwi EN
  exact this
 ·have := C7.of_1 (s := ((splitT ((1 : Nat) : Int) 3).1, (1, 3))) W T hk hQi hQ (by rw [← h2]) h3 hQ h4 h5 (by omega) hwi EN
  have e := eighth_alike (150 + 2 * 3)
  dsimp only at this
  have e2 : (((restP 1 3 (150 + 2 * 3) (3 - 2)).2, (restP 1 3 (150 + 2 * 3) (3 - 2)).1) : Pt) = restP 1 3 (150 + 2 * 3) (3 - 2) := by
   rw [show 3 - 2 = 1 from rfl, e]
   exact Prod.ext rfl e.symm
  rw [e2] at this
  exact this
theorem dFound {k Q cw sw f : Nat} {ki Qi : Int} {x : Iv} (W0 : World) (T : Tab W0) (hm : (k, cw, sw) ∈ T1.rowAt Q) (hQ : Q ≤ 9) (hk : (k : Int) = ki) (hQi : (Q : Int) = Qi)
  (hf : f = 183 ∧ x = (restP k Q (150 + 2 * Q) (Q - 2)).1 ∨ f = 184 ∧ x = (restP k Q (150 + 2 * Q) (Q - 2)).2) :
  Calls Tryz.prog 182 #[.agg #[.int .i64 ki, .int .i64 Qi], .int .i64 110, .func (.func f) #[] #[]] W0 (MakesI W0 (endsV x 110) 400 3) := by
 have FO := Ho.mk (fun w T => dForm (k := ki) w T hQi (by omega : Q ≤ 20))
 rw [← hk, (row_self hQ hm).1, hk] at FO
 unfold MakesT at FO
 have hwi : ((150 + 2 * Q : Nat) : Int) = 110 + 2 * Qi + 40 := by omega
 have OF := Ho.mk (fun W T => dOfRow W T hm hQ hk hQi rfl hwi)
 have E := rowAt_ok Q hm
 obtain ⟨p, hp⟩ : ∃ p, restP k Q (150 + 2 * Q) (Q - 2) = p := ⟨_, rfl⟩
 have kc := E.kc
 have ks := E.ks
 have oc1 := E.oc1
 have oc2 := E.oc2
 have os1 := E.os1
 have os2 := E.os2
 rw [hp] at OF kc ks oc1 oc2 os1 os2 hf
 have q0 : 0 ≤ Qi := by omega
 have q1 : Qi ≤ 9 := by omega
 have TT := Ho.mk T
 have e1 : ((k, Q) : Nat × Nat).1 = k := rfl
 have e2 : ((k, Q) : Nat × Nat).2 = Q := rfl
 rw [e1, e2, hk, hQi] at FO
 have EX : Ho (∀ w A c B d, Tab w → Dv w A c x.1 400 3 → Dv w B d x.2 400 3 → Calls Tryz.prog 192 #[.agg #[.bool (dneg x.1), .slice A (digs (dm x.1)).length c, .int .i64 (de x.1), .bool (dneg x.2), .slice B (digs (dm x.2)).length d, .int .i64 (de x.2)], .int .i64 110] w (MakesIB w (endsV x 110) true 400 3)) := by
  rcases hf with ⟨_, rfl⟩ | ⟨_, rfl⟩
  ·exact ⟨fun w A c B d T h1 h2 => C8.dEnds (n := 110) w T h1 h2 (by decide) rfl oc1 oc2 kc⟩
  ·exact ⟨fun w A c B d T h1 h2 => C8.dEnds (n := 110) w T h1 h2 (by decide) rfl os1 os2 ks⟩
 have AS : Ho (∀ w A B C D a b c d, Dv w A a p.1.1 400 3 → Dv w B b p.1.2 400 3 → Dv w C c p.2.1 400 3 → Dv w D d p.2.2 400 3 → Calls Tryz.prog f #[.agg #[.bool (dneg p.1.1), .slice A (digs (dm p.1.1)).length a, .int .i64 (de p.1.1), .bool (dneg p.1.2), .slice B (digs (dm p.1.2)).length b, .int .i64 (de p.1.2), .bool (dneg p.2.1), .slice C (digs (dm p.2.1)).length c, .int .i64 (de p.2.1), .bool (dneg p.2.2), .slice D (digs (dm p.2.2)).length d, .int .i64 (de p.2.2)]] w (MakesI w x 400 3)) := by
  rcases hf with ⟨rfl, rfl⟩ | ⟨rfl, rfl⟩
  ·exact ⟨fun w A B C D a b c d h1 h2 h3 h4 => dCos1 p w A B C D a b c d h1 h2 h3 h4⟩
  ·exact ⟨fun w A B C D a b c d h1 h2 h3 h4 => dSin1 p w A B C D a b c d h1 h2 h3 h4⟩
 generalize endsV x 110 = r at *
 have hfs : f = 183 ∨ f = 184 := hf.imp (·.1) (·.1)
 clear T hm hk hQi hf E hp kc ks oc1 oc2 os1 os2 hwi hQ e1 e2
 rcases hfs with rfl | rfl
 all_goals
  go_enter Tryz.func182, Tryz.ntmps182
  go_wp2_with fail
  have KT := Ho.mk ((Blk.new W0 [.int .i64 ki, .int .i64 Qi] 79).old (.cells #[.bool false, .slice none 0 0, .int .i64 0, .bool false, .slice none 0 0, .int .i64 0] 42))
  have KR := Ho.mk (Blk.new (W0.alloc (.cells #[.int .i64 ki, .int .i64 Qi] 79)) [.bool false, .slice none 0 0, .int .i64 0, .bool false, .slice none 0 0, .int .i64 0] 42)
  rw [World.size_alloc] at KR
  have g0 := Ho.mk (((Bel.refl W0).alloc (.cells #[.int .i64 ki, .int .i64 Qi] 79)).alloc (.cells #[.bool false, .slice none 0 0, .int .i64 0, .bool false, .slice none 0 0, .int .i64 0] 42))
  have hS : ((W0.alloc (.cells #[.int .i64 ki, .int .i64 Qi] 79)).alloc (.cells #[.bool false, .slice none 0 0, .int .i64 0, .bool false, .slice none 0 0, .int .i64 0] 42)).heap.size = W0.heap.size + 1 + 1 := by simp only [World.size_alloc]
  generalize ((W0.alloc (.cells #[.int .i64 ki, .int .i64 Qi] 79)).alloc (.cells #[.bool false, .slice none 0 0, .int .i64 0, .bool false, .slice none 0 0, .int .i64 0] 42)) = W at *
  have y0 := KT.out.cell (i := 0) rfl
  have y1 := KT.out.cell (i := 1) rfl
  go_step3
  go_wp2_with fail
  (with_reducible refine (FO.out _ (TT.out.bel g0.out)).mono ?_); rintro e w1 ⟨rfl, b1⟩
  have KT1 := Ho.mk (KT.out.bel b1)
  clear y0 y1
  have y0 := KT1.out.cell (i := 0) rfl
  have y1 := KT1.out.cell (i := 1) rfl
  go_wp2_with fail
  simp only [run_fieldQ]
  go_wp2_with fail
  go_step3
  go_wp2_with fail
  (with_reducible refine (OF.out _ (TT.out.bel (g0.out.trans b1))).mono ?_); rintro e w2 ⟨A, a, B, b, C, c, D, d, rfl, n1, n2, n3, n4, b2⟩
  go_wp2_with fail
  (with_reducible refine (AS.out _ A B C D a b c d n1 n2 n3 n4).mono ?_); rintro e w3 ⟨A3, c3, B3, d3, rfl, n5, n6, b3⟩
  go_wp2_with fail
  (with_reducible refine (EX.out _ A3 c3 B3 d3 (TT.out.bel (((g0.out.trans b1).trans b2).trans b3)) n5 n6).mono ?_); rintro e w4 ⟨A4, c4, B4, d4, rfl, n7, n8, b4⟩
  have bb := ((b1.trans b2).trans b3).trans b4
  have KO := Ho.mk (Blk.new w4 [.bool (dneg r.1), .slice A4 (digs (dm r.1)).length c4, .int .i64 (de r.1), .bool (dneg r.2), .slice B4 (digs (dm r.2)).length d4, .int .i64 (de r.2)] 42)
  have KR2 := Ho.mk (KR.out.bel (bb.alloc (.cells #[.bool (dneg r.1), .slice A4 (digs (dm r.1)).length c4, .int .i64 (de r.1), .bool (dneg r.2), .slice B4 (digs (dm r.2)).length d4, .int .i64 (de r.2)] 42)))
  have M1 := Ho.mk (n7.bel ((Bel.refl w4).alloc (.cells #[.bool (dneg r.1), .slice A4 (digs (dm r.1)).length c4, .int .i64 (de r.1), .bool (dneg r.2), .slice B4 (digs (dm r.2)).length d4, .int .i64 (de r.2)] 42)))
  have M2 := Ho.mk (n8.bel ((Bel.refl w4).alloc (.cells #[.bool (dneg r.1), .slice A4 (digs (dm r.1)).length c4, .int .i64 (de r.1), .bool (dneg r.2), .slice B4 (digs (dm r.2)).length d4, .int .i64 (de r.2)] 42)))
  have gg := Ho.mk (g0.out.trans (bb.alloc (.cells #[.bool (dneg r.1), .slice A4 (digs (dm r.1)).length c4, .int .i64 (de r.1), .bool (dneg r.2), .slice B4 (digs (dm r.2)).length d4, .int .i64 (de r.2)] 42)))
  clear y0 y1 n1 n2 n3 n4 n5 n6 n7 n8 b1 b2 b3 b4 bb
  have y0 := KO.out.cell (i := 0) rfl
  have y1 := KO.out.cell (i := 1) rfl
  have y2 := KO.out.cell (i := 2) rfl
  have y3 := KO.out.cell (i := 3) rfl
  have y4 := KO.out.cell (i := 4) rfl
  have y5 := KO.out.cell (i := 5) rfl
  have x0 := KR2.out.cell (i := 0) rfl
  have x1 := KR2.out.cell (i := 1) rfl
  have x2 := KR2.out.cell (i := 2) rfl
  have x3 := KR2.out.cell (i := 3) rfl
  have x4 := KR2.out.cell (i := 4) rfl
  have x5 := KR2.out.cell (i := 5) rfl
  have z0 := KR2.out.free 0
  have z1 := KR2.out.free 1
  have z2 := KR2.out.free 2
  have z3 := KR2.out.free 3
  have z4 := KR2.out.free 4
  have z5 := KR2.out.free 5
  go_wp2
  rw [Exit.noGoto_ret]
  exact I0.gives_endI (fn := Tryz.f182) (i := r) rfl rfl gg.out (by omega) KR2.out M1.out M2.out
theorem dCos {k Q cw sw : Nat} {ki Qi : Int} (W0 : World) (T : Tab W0) (hm : (k, cw, sw) ∈ T1.rowAt Q) (hQ : Q ≤ 9) (hk : (k : Int) = ki) (hQi : (Q : Int) = Qi) :
  Calls Tryz.prog 174 #[.agg #[.int .i64 ki, .int .i64 Qi], .int .i64 110] W0 (MakesI W0 (endsV (restP k Q (150 + 2 * Q) (Q - 2)).1 110) 400 3) := by
 have FO := Ho.mk (fun W T => dFound W T hm hQ hk hQi (.inl ⟨rfl, rfl⟩))
 have TT := Ho.mk T
 clear T hm hk hQi hQ
 generalize endsV (restP k Q (150 + 2 * Q) (Q - 2)).1 110 = r at *
 go_enter Tryz.func174, Tryz.ntmps174
 go_wp2_with fail
 have KT := Ho.mk ((Blk.new W0 [.int .i64 ki, .int .i64 Qi] 79).old (.cells #[.bool false, .slice none 0 0, .int .i64 0, .bool false, .slice none 0 0, .int .i64 0] 42))
 have KR := Ho.mk (Blk.new (W0.alloc (.cells #[.int .i64 ki, .int .i64 Qi] 79)) [.bool false, .slice none 0 0, .int .i64 0, .bool false, .slice none 0 0, .int .i64 0] 42)
 rw [World.size_alloc] at KR
 have g0 := Ho.mk (((Bel.refl W0).alloc (.cells #[.int .i64 ki, .int .i64 Qi] 79)).alloc (.cells #[.bool false, .slice none 0 0, .int .i64 0, .bool false, .slice none 0 0, .int .i64 0] 42))
 have hS : ((W0.alloc (.cells #[.int .i64 ki, .int .i64 Qi] 79)).alloc (.cells #[.bool false, .slice none 0 0, .int .i64 0, .bool false, .slice none 0 0, .int .i64 0] 42)).heap.size = W0.heap.size + 1 + 1 := by simp only [World.size_alloc]
 generalize ((W0.alloc (.cells #[.int .i64 ki, .int .i64 Qi] 79)).alloc (.cells #[.bool false, .slice none 0 0, .int .i64 0, .bool false, .slice none 0 0, .int .i64 0] 42)) = W at *
 have y0 := KT.out.cell (i := 0) rfl
 have y1 := KT.out.cell (i := 1) rfl
 go_wp2_with fail
 (with_reducible refine (FO.out _ (TT.out.bel g0.out)).mono ?_); rintro e w1 ⟨A, a, B, b, rfl, n1, n2, b1⟩
 have KR2 := Ho.mk (KR.out.bel b1)
 have M1 := Ho.mk n1
 have M2 := Ho.mk n2
 have gg := Ho.mk (g0.out.trans b1)
 clear y0 y1 n1 n2 b1
 have x0 := KR2.out.cell (i := 0) rfl
 have x1 := KR2.out.cell (i := 1) rfl
 have x2 := KR2.out.cell (i := 2) rfl
 have x3 := KR2.out.cell (i := 3) rfl
 have x4 := KR2.out.cell (i := 4) rfl
 have x5 := KR2.out.cell (i := 5) rfl
 have z0 := KR2.out.free 0
 have z1 := KR2.out.free 1
 have z2 := KR2.out.free 2
 have z3 := KR2.out.free 3
 have z4 := KR2.out.free 4
 have z5 := KR2.out.free 5
 go_wp2
 exact I0.gives_endI (fn := Tryz.f174) (i := r) rfl rfl gg.out (by omega) KR2.out M1.out M2.out
theorem dSin {k Q cw sw : Nat} {ki Qi : Int} (W0 : World) (T : Tab W0) (hm : (k, cw, sw) ∈ T1.rowAt Q) (hQ : Q ≤ 9) (hk : (k : Int) = ki) (hQi : (Q : Int) = Qi) :
  Calls Tryz.prog 175 #[.agg #[.int .i64 ki, .int .i64 Qi], .int .i64 110] W0 (MakesI W0 (endsV (restP k Q (150 + 2 * Q) (Q - 2)).2 110) 400 3) := by
 have FO := Ho.mk (fun W T => dFound W T hm hQ hk hQi (.inr ⟨rfl, rfl⟩))
 have TT := Ho.mk T
 clear T hm hk hQi hQ
 generalize endsV (restP k Q (150 + 2 * Q) (Q - 2)).2 110 = r at *
 go_enter Tryz.func175, Tryz.ntmps175
 go_wp2_with fail
 have KT := Ho.mk ((Blk.new W0 [.int .i64 ki, .int .i64 Qi] 79).old (.cells #[.bool false, .slice none 0 0, .int .i64 0, .bool false, .slice none 0 0, .int .i64 0] 42))
 have KR := Ho.mk (Blk.new (W0.alloc (.cells #[.int .i64 ki, .int .i64 Qi] 79)) [.bool false, .slice none 0 0, .int .i64 0, .bool false, .slice none 0 0, .int .i64 0] 42)
 rw [World.size_alloc] at KR
 have g0 := Ho.mk (((Bel.refl W0).alloc (.cells #[.int .i64 ki, .int .i64 Qi] 79)).alloc (.cells #[.bool false, .slice none 0 0, .int .i64 0, .bool false, .slice none 0 0, .int .i64 0] 42))
 have hS : ((W0.alloc (.cells #[.int .i64 ki, .int .i64 Qi] 79)).alloc (.cells #[.bool false, .slice none 0 0, .int .i64 0, .bool false, .slice none 0 0, .int .i64 0] 42)).heap.size = W0.heap.size + 1 + 1 := by simp only [World.size_alloc]
 generalize ((W0.alloc (.cells #[.int .i64 ki, .int .i64 Qi] 79)).alloc (.cells #[.bool false, .slice none 0 0, .int .i64 0, .bool false, .slice none 0 0, .int .i64 0] 42)) = W at *
 have y0 := KT.out.cell (i := 0) rfl
 have y1 := KT.out.cell (i := 1) rfl
 go_wp2_with fail
 (with_reducible refine (FO.out _ (TT.out.bel g0.out)).mono ?_); rintro e w1 ⟨A, a, B, b, rfl, n1, n2, b1⟩
 have KR2 := Ho.mk (KR.out.bel b1)
 have M1 := Ho.mk n1
 have M2 := Ho.mk n2
 have gg := Ho.mk (g0.out.trans b1)
 clear y0 y1 n1 n2 b1
 have x0 := KR2.out.cell (i := 0) rfl
 have x1 := KR2.out.cell (i := 1) rfl
 have x2 := KR2.out.cell (i := 2) rfl
 have x3 := KR2.out.cell (i := 3) rfl
 have x4 := KR2.out.cell (i := 4) rfl
 have x5 := KR2.out.cell (i := 5) rfl
 have z0 := KR2.out.free 0
 have z1 := KR2.out.free 1
 have z2 := KR2.out.free 2
 have z3 := KR2.out.free 3
 have z4 := KR2.out.free 4
 have z5 := KR2.out.free 5
 go_wp2
 exact I0.gives_endI (fn := Tryz.f175) (i := r) rfl rfl gg.out (by omega) KR2.out M1.out M2.out
end C9
namespace S1
open Ieee Go Go.RowKit Go.Proofs Go.Proofs.YtnbdoidccacdnaaGreatDoor Ow Pl Dp Dt Gp Gq G3 G4 F1 T0 I0 T1 U0 W0
attribute [local go_sem ↓] Go.wp_at_zero Go.wp_at_succ
theorem dSure {ki Qi : Int} {f cw : Nat} {r : Iv} (W0 : World) (T : Tab W0) (hf : f = 174 ∨ f = 175) (hr1 : nw r.1 = cw) (hr2 : nw r.2 = cw)
  (FA : ∀ w, Tab w → Calls Tryz.prog f #[.agg #[.int .i64 ki, .int .i64 Qi], .int .i64 110] w (MakesI w r 400 3)) :
  Calls Tryz.prog 173 #[.agg #[.int .i64 ki, .int .i64 Qi], .func (.func f) #[] #[]] W0 (Tells W0 (.float .f64 cw)) := by
 have HA := Ho.mk FA
 have TT := Ho.mk T
 have hl : cw < 2 * sgnW := by rw [← hr1]; exact (nw_facts _).1
 have SA := Ho.mk (fun w => same_calls hl hl w)
 rw [alike_self hl] at SA
 have R1 := Ho.mk hr1
 have R2 := Ho.mk hr2
 clear T FA hl hr1 hr2
 rcases hf with rfl | rfl
 all_goals
  go_enter Tryz.func173, Tryz.ntmps173
  go_wp2_with fail
  have KT := Ho.mk (Blk.new W0 [.int .i64 ki, .int .i64 Qi] 79)
  have g0 := Ho.mk ((Bel.refl W0).alloc (.cells #[.int .i64 ki, .int .i64 Qi] 79))
  go_step3
  go_wp2_with fail
  go_step3
  go_wp2_with fail
  generalize W0.alloc (.cells #[.int .i64 ki, .int .i64 Qi] 79) = W1 at *
  go_loopw [6] (fun n wr => n = .int .i64 110 ∧ Ho (Blk wr W0.heap.size 79 [.int .i64 ki, .int .i64 Qi]) ∧ Ho (Bel W0 wr)) (fun _ _ => 0)
  case atStart => exact ⟨rfl, KT, g0⟩
  clear KT g0
  case round =>
  obtain ⟨rfl, KT, g1⟩ := hrel
  have y0 := KT.out.cell (i := 0) rfl
  have y1 := KT.out.cell (i := 1) rfl
  go_wp2_with fail
  (with_reducible refine (HA.out _ (TT.out.bel g1.out)).mono ?_); rintro e w5 ⟨A, a, B, b, rfl, n1, n2, b1⟩
  have KI := Ho.mk (Blk.new w5 [.bool (dneg r.1), .slice A (digs (dm r.1)).length a, .int .i64 (de r.1), .bool (dneg r.2), .slice B (digs (dm r.2)).length b, .int .i64 (de r.2)] 42)
  have N1 := Ho.mk (n1.bel ((Bel.refl w5).alloc (.cells #[.bool (dneg r.1), .slice A (digs (dm r.1)).length a, .int .i64 (de r.1), .bool (dneg r.2), .slice B (digs (dm r.2)).length b, .int .i64 (de r.2)] 42)))
  have N2 := Ho.mk (n2.bel ((Bel.refl w5).alloc (.cells #[.bool (dneg r.1), .slice A (digs (dm r.1)).length a, .int .i64 (de r.1), .bool (dneg r.2), .slice B (digs (dm r.2)).length b, .int .i64 (de r.2)] 42)))
  have gg := Ho.mk ((g1.out.trans b1).alloc (.cells #[.bool (dneg r.1), .slice A (digs (dm r.1)).length a, .int .i64 (de r.1), .bool (dneg r.2), .slice B (digs (dm r.2)).length b, .int .i64 (de r.2)] 42))
  clear y0 y1 n1 n2 b1
  go_wp2_with fail
  generalize w5.alloc (.cells #[.bool (dneg r.1), .slice A (digs (dm r.1)).length a, .int .i64 (de r.1), .bool (dneg r.2), .slice B (digs (dm r.2)).length b, .int .i64 (de r.2)] 42) = W7 at *
  have y0 := KI.out.cell (i := 0) rfl
  have y1 := KI.out.cell (i := 1) rfl
  have y2 := KI.out.cell (i := 2) rfl
  have y3 := KI.out.cell (i := 3) rfl
  have y4 := KI.out.cell (i := 4) rfl
  have y5 := KI.out.cell (i := 5) rfl
  refine wp_region_held_drew (S := fun w' => Bel W7 w') (by kernel_rfl) (Bel.refl _).drew (fun hHeld => ?_)
  (try dsimp only at hHeld)
  refine rt (i := 0) hHeld ?_
  refine rl (i := 1) (v := ?_) hHeld (fun w hSw => ?_) ?_
  rotate_left
  ·(have z0 := hSw.cell y0; have z1 := hSw.cell y1; have z2 := hSw.cell y2; go_simp; try (with_reducible rfl))
  refine rt (i := 3) hHeld ?_
  refine rl (i := 4) (v := ?_) hHeld (fun w hSw => ?_) ?_
  rotate_left
  ·(have z0 := hSw.cell y3; have z1 := hSw.cell y4; have z2 := hSw.cell y5; go_simp; try (with_reducible rfl))
  try simp only [Act.put, List.setIfInBounds_toArray, List.set_cons_zero, List.set_cons_succ]
  refine rc (i := 2) (fun K hK => ?_)
  go_simp
  go_at_call 180
  refine (G7.near_calls (N1.out.bel hHeld) (by omega) (by omega)).mono ?_
  rintro e w8 ⟨rfl, b8⟩
  try go_wp2_with fail
  refine hK.out _ _ (Bel.trans hHeld b8) (fun hHeld => ?_)
  clear hK K
  try simp only [Act.put, List.setIfInBounds_toArray, List.set_cons_zero, List.set_cons_succ]
  refine rc (i := 5) (fun K hK => ?_)
  go_simp
  go_at_call 180
  refine (G7.near_calls (N2.out.bel hHeld) (by omega) (by omega)).mono ?_
  rintro e w9 ⟨rfl, b9⟩
  try go_wp2_with fail
  refine hK.out _ _ (Bel.trans hHeld b9) (fun hHeld => ?_)
  clear hK K
  refine rt (i := 6) hHeld ?_
  refine rt (i := 7) hHeld ?_
  try simp only [Act.put, List.setIfInBounds_toArray, List.set_cons_zero, List.set_cons_succ]
  refine wpAnyH_done (by kernel_rfl) ?_ _
  rw [R1.out, R2.out]
  have g9 := Ho.mk (gg.out.trans hHeld)
  go_wp2_with fail
  (with_reducible refine (SA.out _).mono ?_); rintro e w10 ⟨rfl, b10⟩
  go_wp2
  rw [Exit.noGoto_ret]
  go_ret
  exact ⟨rfl, g9.out.trans b10⟩
theorem dTCos {k Q cw sw : Nat} {ki Qi : Int} (W0 : World) (T : Tab W0) (hm : (k, cw, sw) ∈ T1.rowAt Q) (hQ : Q ≤ 9) (hk : (k : Int) = ki) (hQi : (Q : Int) = Qi) :
  Calls Tryz.prog 157 #[.agg #[.int .i64 ki, .int .i64 Qi]] W0 (Tells W0 (.float .f64 cw)) := by
 have E := rowAt_ok Q hm
 have SU := Ho.mk (fun W T => dSure W T (.inl rfl) E.cl E.ch (fun w T => C9.dCos w T hm hQ hk hQi))
 have TT := Ho.mk T
 clear T E hm hk hQi hQ
 go_enter Tryz.func157, Tryz.ntmps157
 go_wp2_with fail
 (with_reducible refine (SU.out _ (TT.out.bel ((Bel.refl W0).alloc _))).mono ?_); rintro e w1 ⟨rfl, b1⟩
 go_wp2
 go_ret
 exact ⟨rfl, ((Bel.refl W0).alloc _).trans b1⟩
theorem dTSin {k Q cw sw : Nat} {ki Qi : Int} (W0 : World) (T : Tab W0) (hm : (k, cw, sw) ∈ T1.rowAt Q) (hQ : Q ≤ 9) (hk : (k : Int) = ki) (hQi : (Q : Int) = Qi) :
  Calls Tryz.prog 158 #[.agg #[.int .i64 ki, .int .i64 Qi]] W0 (Tells W0 (.float .f64 sw)) := by
 have E := rowAt_ok Q hm
 have SU := Ho.mk (fun W T => dSure W T (.inr rfl) E.sl E.sh (fun w T => C9.dSin w T hm hQ hk hQi))
 have TT := Ho.mk T
 clear T E hm hk hQi hQ
 go_enter Tryz.func158, Tryz.ntmps158
 go_wp2_with fail
 (with_reducible refine (SU.out _ (TT.out.bel ((Bel.refl W0).alloc _))).mono ?_); rintro e w1 ⟨rfl, b1⟩
 go_wp2
 go_ret
 exact ⟨rfl, ((Bel.refl W0).alloc _).trans b1⟩
end S1
namespace S2
open Ieee Go Go.RowKit Go.Proofs Go.Maps Go.Proofs.YtnbdoidccacdnaaGreatDoor Ow Pl Gp T1 U0 W0
def pairD (a b : Nat) : DataW Unit := .agg [.lit (.float .f64 a), .lit (.float .f64 b)]
def RP : Value → Option (DataW Unit × List MemPlace)
 | .agg cs => match cs.toList with
  | [.float .f64 a, .float .f64 b] => some (pairD a b, [])
  | _ => none
 | _ => none
theorem rp_mk (a b : Nat) : RP (.agg #[.float .f64 a, .float .f64 b]) = some (pairD a b, []) := rfl
theorem rp_inv {v : Value} {D : DataW Unit} {ps : List MemPlace} (h : RP v = some (D, ps)) : ∃ a b, v = .agg #[.float .f64 a, .float .f64 b] ∧ D = pairD a b := by
 unfold RP at h
 split at h
 ·rename_i cs
  split at h
  ·rename_i a b he
   cases h
   refine ⟨a, b, ?_, rfl⟩
   congr 1
   rw [← Array.toList_inj]; exact he
  ·cases h
 ·cases h
theorem pairD_inj {a b c d : Nat} (h : pairD a b = pairD c d) : a = c ∧ b = d := by
 unfold pairD at h
 simp only [DataW.agg.injEq, List.cons.injEq, DataW.lit.injEq, Lit.float.injEq] at h
 exact ⟨h.1.2, h.2.1.2⟩
theorem und : Tryz.prog.underlying 79 = some (.struct (Tryz.prog.fieldsOf 79)) := by kernel_rfl
theorem wide : (match Tryz.prog.underlying 79 with | some (.array _ _) | some (.struct _) => true | _ => false) = true := by rw [und]
theorem laid : laidOutB Tryz.prog = true := by kernel_rfl
theorem row : (79 : TypeId) < Tryz.prog.types.size := of_decide_eq_true (by kernel_rfl)
theorem keyed : Keyed Tryz.prog 79 := Keyed.of_law (deep_law_laid laid (m := 2) (by omega) row (by kernel_rfl) wide)
theorem undM : Tryz.prog.underlying 142 = some (.map 79 145) := by kernel_rfl
theorem zero (w : World) : (zeroValue 145).run Tryz.prog w = .ok (.agg #[.float .f64 0, .float .f64 0]) w := by kernel_rfl
theorem keys_all : ∀ q : Fin 10, ∀ k : Fin 64, (keyOf Tryz.prog 79 (.agg #[.int .i64 (k.val : Int), .int .i64 (q.val : Int)])).isSome = true := by decide +kernel
noncomputable def klT (r : Nat × Nat) : Lit := (keyOf Tryz.prog 79 (.agg #[.int .i64 (r.1 : Int), .int .i64 (r.2 : Int)])).getD (.bool false)
theorem kl_key {r : Nat × Nat} (h1 : r.1 < 64) (h2 : r.2 ≤ 9) : keyOf Tryz.prog 79 (.agg #[.int .i64 (r.1 : Int), .int .i64 (r.2 : Int)]) = some (klT r) := by
 have := keys_all ⟨r.2, by omega⟩ ⟨r.1, h1⟩
 unfold klT
 cases hk : keyOf Tryz.prog 79 (.agg #[.int .i64 (r.1 : Int), .int .i64 (r.2 : Int)]) with
 | none => rw [hk] at this; cases this
 | some l => rfl
theorem kl_inj {r s : Nat × Nat} (h1 : r.1 < 64) (h2 : r.2 ≤ 9) (k1 : s.1 < 64) (k2 : s.2 ≤ 9) (e : klT r = klT s) : r = s := by
 have a := kl_key h1 h2
 have b := kl_key k1 k2
 rw [e] at a
 have := keyed.inj a b
 simp only [Value.agg.injEq, Array.mk.injEq, List.cons.injEq, Value.int.injEq, true_and, and_true] at this
 exact Prod.ext (by have := this.1; omega) (by have := this.2; omega)
structure Mp (w : World) (b n : Nat) : Prop where
 out : ∃ D : DataW Unit, w.ownsMap Tryz.prog 79 RP b n D ∧ IsMap D ∧ ∀ r : Nat × Nat, r.1 < 64 → r.2 ≤ 9 → Maps.has D (klT r) = true → ∀ z, D.atKey (klT r) z = pairD (lookT r).1 (lookT r).2
theorem Mp.bel {w w' : World} {b n : Nat} (h : Mp w b n) (g : Bel w w') : Mp w' b n := by
 obtain ⟨D, h1, h2, h3⟩ := h.out
 refine ⟨D, ?_, h2, h3⟩
 obtain ⟨es, clock, hb, F, hs, hD⟩ := h1
 exact ⟨es, clock, (g.out.block b (Array.getElem?_eq_some_iff.1 hb).1).trans hb, F, hs, hD⟩
theorem Mp.gr {w w' : World} {b b' n : Nat} (h : Mp w b n) (g : Gr b' w w') (ne : b ≠ b') : Mp w' b n := by
 obtain ⟨D, h1, h2, h3⟩ := h.out
 refine ⟨D, ?_, h2, h3⟩
 obtain ⟨es, clock, hb, F, hs, hD⟩ := h1
 exact ⟨es, clock, (g.block b (Array.getElem?_eq_some_iff.1 hb).1 ne).trans hb, F, hs, hD⟩
theorem Mp.lt {w : World} {b n : Nat} (h : Mp w b n) : b < w.heap.size := by
 obtain ⟨D, h1, _⟩ := h.out; exact h1.lt
theorem Mp.mono {w : World} {b n n' : Nat} (h : Mp w b n) (hn : n ≤ n') : Mp w b n' := by
 obtain ⟨D, h1, h2⟩ := h.out; exact ⟨D, h1.mono hn, h2⟩
theorem Mp.made (w : World) : Mp (w.alloc (.map #[] 0)) w.heap.size 0 :=
 ⟨.map [], World.ownsMap_made _ _ _ _, isMap_empty, fun r _ _ h => by simp [Maps.has_eq] at h⟩
theorem gr_of {w w' : World} {b : Nat} (h : w.grownBy w' (some b)) : Gr b w w' := ⟨h.os, h.tape, h.output, h.size, fun k hk ne => h.block k hk (fun e => ne (by cases e; rfl))⟩
theorem wpList_look {P : Program} (w : World) {ops : Array Oper} {rest : List Oper} {o : Oper} {a : Act} {Q : Exit → Act → World → Prop} (hP : P = Tryz.prog) (hg : o.guard = none) (m x : Operand) (hop : o.op = Op.lookup 142 m x true)
  {b n : Nat} (M : Mp w b n) (hm : a.eval m = .map (some b)) {r : Nat × Nat} (h1 : r.1 < 64) (h2 : r.2 ≤ 9) {k q : Int} (hk : (r.1 : Int) = k) (hq : (r.2 : Int) = q) (hx : a.eval x = .agg #[.int .i64 k, .int .i64 q])
  (hK : ∀ (h : Bool) (c s : Nat), (h = true → c = (lookT r).1 ∧ s = (lookT r).2) → wpList P ops Q rest (a.put o.dst (.tuple #[.agg #[.float .f64 c, .float .f64 s], .bool h])) w) :
  wpList P ops Q (o :: rest) a w := by
 subst hP; subst hk; subst hq
 obtain ⟨D, d1, d2, d3⟩ := M.out
 refine wpList_lookup_own_ok w hg m x _ hop _ _ keyed undM RP (zero w) (pairD 0 0) [] (rp_mk 0 0) b n D hm d1 _ _ hx (kl_key h1 h2) ?_
 intro v ps hv
 obtain ⟨c, s, rfl, hD⟩ := rp_inv hv
 refine hK _ c s (fun hh => ?_)
 rw [d3 r h1 h2 hh] at hD
 have := pairD_inj hD
 exact ⟨this.1.symm, this.2.symm⟩
theorem wpList_put {P : Program} (w : World) {ops : Array Oper} {rest : List Oper} {o : Oper} {a : Act} {Q : Exit → Act → World → Prop} (hP : P = Tryz.prog) (hg : o.guard = none) (m x v : Operand) (hop : o.op = Op.mapUpdate 142 m x v)
  {b n : Nat} (M : Mp w b n) (hn : n < 1000000) (hm : a.eval m = .map (some b)) {r : Nat × Nat} (h1 : r.1 < 64) (h2 : r.2 ≤ 9) {k q : Int} (hk : (r.1 : Int) = k) (hq : (r.2 : Int) = q) (hx : a.eval x = .agg #[.int .i64 k, .int .i64 q])
  (hv : a.eval v = .agg #[.float .f64 (lookT r).1, .float .f64 (lookT r).2])
  (hK : ∀ w', Mp w' b (n + 1) → Gr b w w' → wpList P ops Q rest (a.put o.dst undef) w') :
  wpList P ops Q (o :: rest) a w := by
 subst hP; subst hk; subst hq
 obtain ⟨D, d1, d2, d3⟩ := M.out
 refine wpList_mapUpdate_own w hg m x v _ hop _ _ keyed undM RP b n D hm d1 (by simp only [maxLen]; omega) _ _ _ hx hv (kl_key h1 h2) _ [] (rp_mk _ _) ?_
 intro w' o1 o2
 refine hK w' ⟨_, o1, d2.put _ _, fun s k1 k2 hh z => ?_⟩ (gr_of o2)
 by_cases e : klT s = klT r
 ·have := kl_inj k1 k2 h1 h2 e
  subst this
  exact atKey_put_same d2 (keyed.key (kl_key h1 h2)) _ z
 ·rw [atKey_put_other e]
  rw [has_put_other e] at hh
  exact d3 s k1 k2 hh z
end S2
namespace S3
open Ieee Go Go.RowKit Go.Proofs Go.Proofs.YtnbdoidccacdnaaGreatDoor Ow Pl Dp Dt Gp F1 I0 T1 U0 U1 W0 S1 S2
attribute [local go_sem ↓] Go.wp_at_zero Go.wp_at_succ
@[go_sem] theorem run_store_float {P : Program} {w : World} {a : Addr} {m : Mode} (k : FloatKind) (b : Nat) : (store a (.float k b) m).run P w = stored P w a (.float k b) m := run_store P w a _ m rfl
@[go_sem] theorem run_store_map {P : Program} {w : World} {a : Addr} {m : Mode} (b : Option Nat) : (store a (.map b) m).run P w = stored P w a (.map b) m := run_store P w a _ m rfl
@[go_sem] theorem run_negS (b : Nat) (w : World) : (Op.unary .neg (.float .f64 b)).run Tryz.prog w = .ok (.float .f64 (Op.negFloat .f64 b)) w := rfl
theorem Mp.far {w : World} {b n : Nat} (h : Mp w b n) {p : Addr} (hp : b ≠ p.block) (v : Value) : Mp (w.setCell p v) b n := by
 obtain ⟨D, h1, h2, h3⟩ := h.out
 refine ⟨D, ?_, h2, h3⟩
 obtain ⟨es, clock, hb, F, hs, hD⟩ := h1
 exact ⟨es, clock, (Below.heap_setCell _ _ _ _ (by first | exact hp | exact Ne.symm hp)).trans hb, F, hs, hD⟩
theorem tab_gr {u v : World} {b : Nat} (k : Tab u) (g : Gr b u v) (hb : ¬ 2 = b) : Tab v :=
 ⟨fun i hi => by have := k.cell i hi; unfold World.cell? at this ⊢; rw [g.block 2 (I4.Tab.lt k) hb]; exact this⟩
theorem res2f {fn : Func} {p : Tmp} {tmps : Array Value} {w : World} {b : Nat} {v0 v1 : Value} (hf : fn.results = #[.cell p 145]) (hp : tmps.getD p undef = .pointer (some ⟨b, 0, none⟩)) (h : Blk w b 145 [v0, v1]) :
  (results fn tmps).run Tryz.prog w = .ok (.agg #[v0, v1]) w := by
 have y0 := h.cell (i := 0) rfl
 have y1 := h.cell (i := 1) rfl
 have hp2 := hp
 rw [Array.getD_eq_getD_getElem?] at hp2
 simp [results, hf, hp2, go_sem, y0, y1]
def rowsCn (Q : Nat) : Bool := (T1.rowAt Q).all fun x => (cn x.2.1 == x.2.1 && cn x.2.2 == x.2.2) && (decide (x.2.1 < 2 * sgnW) && decide (x.2.2 < 2 * sgnW))
theorem rows_cn : ∀ Q, Q ≤ 9 → rowsCn Q = true := by
 intro Q hq
 have : ∀ Q : Fin 10, rowsCn Q.val = true := by decide +kernel
 exact this ⟨Q, by omega⟩
theorem look_cn (r : Nat × Nat) (h : r.2 ≤ 9) : cn (lookT r).1 = (lookT r).1 ∧ cn (lookT r).2 = (lookT r).2 ∧ (lookT r).1 < 2 * sgnW ∧ (lookT r).2 < 2 * sgnW := by
 unfold lookT
 cases hf : (T1.rowAt r.2).find? (fun x => x.1 == r.1) with
 | none => decide
 | some x =>
  have := List.all_eq_true.1 (rows_cn r.2 h) _ (List.mem_of_find?_eq_some hf)
  simp only [Bool.and_eq_true, beq_iff_eq, decide_eq_true_eq] at this
  exact ⟨this.1.1, this.1.2, this.2.1, this.2.2⟩
def MakesC (W0 : World) (bm n : Nat) (p : Nat × Nat) (e : Ending) (w' : World) : Prop :=
 ∃ a b, e = .returned (.agg #[.float .f64 a, .float .f64 b]) ∧ a < 2 * sgnW ∧ b < 2 * sgnW ∧ cn a = p.1 ∧ cn b = p.2 ∧ Mp w' bm n ∧ Gr bm W0 w'
theorem dTOf {q n bm : Nat} {k ki qi : Int} {s : Nat × (Nat × Nat)} (W0 : World) (T : Tab W0) (M0 : Mp W0 bm n) (hb2 : ¬ 2 = bm) (hn : n < 1000000) (hk : k = ki) (hq : (q : Int) = qi) (hq9 : q ≤ 9) (hs : splitT k q = s) :
  Calls Tryz.prog 128 #[.agg #[.int .i64 ki, .int .i64 qi], .map (some bm)] W0 (MakesC W0 bm (n + 1) (turnT s.1 (lookT s.2))) := by
 subst hk
 have SP := Ho.mk (fun w T => dSplit (k := k) w T hq hq9)
 rw [hs] at SP
 obtain ⟨E, e7, r9, k64, _⟩ := split_entry k hq9
 rw [hs] at E e7 r9 k64
 have hm : (s.2.1, (lookT s.2).1, (lookT s.2).2) ∈ T1.rowAt s.2.2 := by
  have h := rests_ok q hq9
  have h0 := split_mem k hq9
  rw [hs] at h0; exact h0
 obtain ⟨ei, hei⟩ : ∃ ei : Int, (s.1 : Int) = ei := ⟨_, rfl⟩
 obtain ⟨rk, hrk⟩ : ∃ rk : Int, (s.2.1 : Int) = rk := ⟨_, rfl⟩
 obtain ⟨rq, hrq⟩ : ∃ rq : Int, (s.2.2 : Int) = rq := ⟨_, rfl⟩
 have TC := Ho.mk (fun W T => dTCos W T hm r9 hrk hrq)
 have TS := Ho.mk (fun W T => dTSin W T hm r9 hrk hrq)
 unfold MakesS at SP
 rw [hei, hrk, hrq] at SP
 have TT := Ho.mk T
 have M1 := Ho.mk M0
 have hbm := M0.lt
 have H64 := Ho.mk k64
 have H9 := Ho.mk r9
 have HRK := Ho.mk hrk
 have HRQ := Ho.mk hrq
 have HEI := Ho.mk hei
 have HE7 := Ho.mk e7
 have HLC := Ho.mk (look_cn s.2 r9)
 clear T M0 E e7 hm hs k64 r9 hrk hrq hei
 go_enter Tryz.func128, Tryz.ntmps128
 go_wp2_with fail
 have KT := Ho.mk ((Blk.new W0 [.int .i64 k, .int .i64 qi] 79).old (.cells #[.float .f64 0, .float .f64 0] 145))
 have KR := Ho.mk (Blk.new (W0.alloc (.cells #[.int .i64 k, .int .i64 qi] 79)) [.float .f64 0, .float .f64 0] 145)
 rw [World.size_alloc] at KR
 have g0 := Ho.mk (((Bel.refl W0).alloc (.cells #[.int .i64 k, .int .i64 qi] 79)).alloc (.cells #[.float .f64 0, .float .f64 0] 145))
 have hS : ((W0.alloc (.cells #[.int .i64 k, .int .i64 qi] 79)).alloc (.cells #[.float .f64 0, .float .f64 0] 145)).heap.size = W0.heap.size + 1 + 1 := by simp only [World.size_alloc]
 generalize ((W0.alloc (.cells #[.int .i64 k, .int .i64 qi] 79)).alloc (.cells #[.float .f64 0, .float .f64 0] 145)) = W at *
 have y0 := KT.out.cell (i := 0) rfl
 have y1 := KT.out.cell (i := 1) rfl
 go_wp2_with fail
 (with_reducible refine (SP.out _ (TT.out.bel g0.out)).mono ?_); rintro e w1 ⟨rfl, b1⟩
 have K5a := Ho.mk (Blk.new w1 [.int .i64 ei, .int .i64 rk, .int .i64 rq] 175)
 have KRa := Ho.mk (KR.out.bel (b1.alloc (.cells #[.int .i64 ei, .int .i64 rk, .int .i64 rq] 175)))
 have g1 := Ho.mk ((g0.out.trans b1).alloc (.cells #[.int .i64 ei, .int .i64 rk, .int .i64 rq] 175))
 have M2 := Ho.mk (M1.out.bel g1.out)
 have hp5 : W0.heap.size + 2 ≤ w1.heap.size := by have := b1.size; omega
 clear y0 y1 b1 KT KR
 have y0 := K5a.out.cell (i := 0) rfl
 have y1 := K5a.out.cell (i := 1) rfl
 have y2 := K5a.out.cell (i := 2) rfl
 go_upto_region 3 with (first | (at_lookup; refine wpList_look _ rfl rfl _ _ rfl M2.out rfl (r := s.2) H64.out H9.out HRK.out HRQ.out rfl ?_; intro hb c0 s0 hcs) | fail)
 have K6 := Ho.mk (Blk.new (w1.alloc (.cells #[.int .i64 ei, .int .i64 rk, .int .i64 rq] 175)) [.float .f64 c0, .float .f64 s0] 145)
 rw [World.size_alloc] at K6
 have K5 := Ho.mk (K5a.out.old (.cells #[.float .f64 c0, .float .f64 s0] 145))
 have KR := Ho.mk (KRa.out.old (.cells #[.float .f64 c0, .float .f64 s0] 145))
 have M := Ho.mk (M2.out.bel ((Bel.refl _).alloc (.cells #[.float .f64 c0, .float .f64 s0] 145)))
 have g2 := Ho.mk (g1.out.alloc (.cells #[.float .f64 c0, .float .f64 s0] 145))
 have HCS := Ho.mk hcs
 clear hcs g1 M2 y0 y1 y2 K5a KRa
 cases hb with
 | true =>
  obtain ⟨rfl, rfl⟩ := HCS.out rfl
  go_upto_region 6 with fail
  generalize (w1.alloc (.cells #[.int .i64 ei, .int .i64 rk, .int .i64 rq] 175)).alloc (.cells #[.float .f64 (lookT s.2).1, .float .f64 (lookT s.2).2] 145) = wc at *
  generalize w1.heap.size = p5 at *
  have M' := Ho.mk (M.out.mono (Nat.le_succ n))
  have G := Ho.mk (g2.out.gr bm)
  have TT' := Ho.mk (TT.out.bel g2.out)
  clear g2 M TT
  have M := M'
  have TT := TT'
  clear M' TT'
  rcases (show (s.1 = 0 ∧ ei = 0) ∨ (s.1 = 1 ∧ ei = 1) ∨ (s.1 = 2 ∧ ei = 2) ∨ (s.1 = 3 ∧ ei = 3) ∨ (s.1 = 4 ∧ ei = 4) ∨ (s.1 = 5 ∧ ei = 5) ∨ (s.1 = 6 ∧ ei = 6) ∨ (s.1 = 7 ∧ ei = 7) by have := HE7.out; have := HEI.out; omega) with ⟨he, rfl⟩ | ⟨he, rfl⟩ | ⟨he, rfl⟩ | ⟨he, rfl⟩ | ⟨he, rfl⟩ | ⟨he, rfl⟩ | ⟨he, rfl⟩ | ⟨he, rfl⟩
  ·have HEJ := Ho.mk he
   clear he HEI HE7
   have PL : Ho (∀ w, Calls Tryz.prog 159 #[.int .i64 0] w (fun r w' => r = .returned (.tuple #[.bool false, .bool false, .bool false]) ∧ Bel w w')) := ⟨fun w => U2.dPlace (e := 0) w (by decide) rfl⟩
   have y0 := K5.out.cell (i := 0) rfl
   have y1 := K5.out.cell (i := 1) rfl
   have y2 := K5.out.cell (i := 2) rfl
   go_wp2_with fail
   (with_reducible refine (PL.out _).mono ?_); rintro e w9 ⟨rfl, b9⟩
   have K6b := Ho.mk (K6.out.bel b9)
   have KRb := Ho.mk (KR.out.bel b9)
   have Mb := Ho.mk (M.out.bel b9)
   have Gb := Ho.mk (G.out.trans (b9.gr bm))
   clear y0 y1 y2 b9
   have y0 := K6b.out.cell (i := 0) rfl
   have z0 := K6b.out.free 0
   have x0 := KRb.out.cell (i := 0) rfl
   have v0 := KRb.out.free 0
   have y1 := K6b.out.cell (i := 1) rfl
   have z1 := K6b.out.free 1
   have x1 := KRb.out.cell (i := 1) rfl
   have v1 := KRb.out.free 1
   have hne : ¬ (p5 + 1 = W0.heap.size + 1) := by omega
   have hne2 : ¬ (W0.heap.size + 1 = p5 + 1) := by omega
   go_upto_region 13 with fail
   go_wp2
   exact bodyPost_ret (res2f (fn := Tryz.f128) rfl rfl ((KRb.out.set 0 (.float .f64 (lookT s.2).1)).set 1 (.float .f64 (lookT s.2).2))) rfl ⟨(lookT s.2).1, (lookT s.2).2, rfl, HLC.out.2.2.1, HLC.out.2.2.2, (by rw [HEJ.out]; exact HLC.out.1), (by rw [HEJ.out]; exact HLC.out.2.1), (Mp.far (Mp.far Mb.out (p := ⟨W0.heap.size + 1, 0, none⟩) (by dsimp only; omega) (.float .f64 (lookT s.2).1)) (p := ⟨W0.heap.size + 1, 1, none⟩) (by dsimp only; omega) (.float .f64 (lookT s.2).2)), ((Gb.out.setNew (p := ⟨W0.heap.size + 1, 0, none⟩) (by dsimp only; omega) (.float .f64 (lookT s.2).1)).setNew (p := ⟨W0.heap.size + 1, 1, none⟩) (by dsimp only; omega) (.float .f64 (lookT s.2).2))⟩
  ·have HEJ := Ho.mk he
   clear he HEI HE7
   have PL : Ho (∀ w, Calls Tryz.prog 159 #[.int .i64 1] w (fun r w' => r = .returned (.tuple #[.bool true, .bool false, .bool false]) ∧ Bel w w')) := ⟨fun w => U2.dPlace (e := 1) w (by decide) rfl⟩
   have y0 := K5.out.cell (i := 0) rfl
   have y1 := K5.out.cell (i := 1) rfl
   have y2 := K5.out.cell (i := 2) rfl
   go_wp2_with fail
   (with_reducible refine (PL.out _).mono ?_); rintro e w9 ⟨rfl, b9⟩
   have K6b := Ho.mk (K6.out.bel b9)
   have KRb := Ho.mk (KR.out.bel b9)
   have Mb := Ho.mk (M.out.bel b9)
   have Gb := Ho.mk (G.out.trans (b9.gr bm))
   clear y0 y1 y2 b9
   have y0 := K6b.out.cell (i := 0) rfl
   have z0 := K6b.out.free 0
   have x0 := KRb.out.cell (i := 0) rfl
   have v0 := KRb.out.free 0
   have y1 := K6b.out.cell (i := 1) rfl
   have z1 := K6b.out.free 1
   have x1 := KRb.out.cell (i := 1) rfl
   have v1 := KRb.out.free 1
   have hne : ¬ (p5 + 1 = W0.heap.size + 1) := by omega
   have hne2 : ¬ (W0.heap.size + 1 = p5 + 1) := by omega
   go_upto_region 13 with fail
   have K6c : Ho (Blk ((w9.setCell ⟨p5 + 1, 0, none⟩ (.float .f64 (lookT s.2).2)).setCell ⟨p5 + 1, 1, none⟩ (.float .f64 (lookT s.2).1)) (p5 + 1) 145 [.float .f64 (lookT s.2).2, .float .f64 (lookT s.2).1]) := ⟨((K6b.out.set 0 (.float .f64 (lookT s.2).2)).set 1 (.float .f64 (lookT s.2).1))⟩
   have KRb := Ho.mk ((KRb.out.far (p := ⟨p5 + 1, 0, none⟩) (by dsimp only; omega) (.float .f64 (lookT s.2).2)).far (p := ⟨p5 + 1, 1, none⟩) (by dsimp only; omega) (.float .f64 (lookT s.2).1))
   have Mb := Ho.mk (Mp.far (Mp.far Mb.out (p := ⟨p5 + 1, 0, none⟩) (by dsimp only; omega) (.float .f64 (lookT s.2).2)) (p := ⟨p5 + 1, 1, none⟩) (by dsimp only; omega) (.float .f64 (lookT s.2).1))
   have Gb := Ho.mk ((Gb.out.setNew (p := ⟨p5 + 1, 0, none⟩) (by dsimp only; omega) (.float .f64 (lookT s.2).2)).setNew (p := ⟨p5 + 1, 1, none⟩) (by dsimp only; omega) (.float .f64 (lookT s.2).1))
   clear y0 y1 z0 z1 x0 x1 v0 v1
   generalize ((w9.setCell ⟨p5 + 1, 0, none⟩ (.float .f64 (lookT s.2).2)).setCell ⟨p5 + 1, 1, none⟩ (.float .f64 (lookT s.2).1)) = wz at *
   have y0 := K6c.out.cell (i := 0) rfl
   have z0 := K6c.out.free 0
   have x0 := KRb.out.cell (i := 0) rfl
   have v0 := KRb.out.free 0
   have y1 := K6c.out.cell (i := 1) rfl
   have z1 := K6c.out.free 1
   have x1 := KRb.out.cell (i := 1) rfl
   have v1 := KRb.out.free 1
   go_wp2
   exact bodyPost_ret (res2f (fn := Tryz.f128) rfl rfl ((KRb.out.set 0 (.float .f64 (lookT s.2).2)).set 1 (.float .f64 (lookT s.2).1))) rfl ⟨(lookT s.2).2, (lookT s.2).1, rfl, HLC.out.2.2.2, HLC.out.2.2.1, (by rw [HEJ.out]; exact HLC.out.2.1), (by rw [HEJ.out]; exact HLC.out.1), (Mp.far (Mp.far Mb.out (p := ⟨W0.heap.size + 1, 0, none⟩) (by dsimp only; omega) (.float .f64 (lookT s.2).2)) (p := ⟨W0.heap.size + 1, 1, none⟩) (by dsimp only; omega) (.float .f64 (lookT s.2).1)), ((Gb.out.setNew (p := ⟨W0.heap.size + 1, 0, none⟩) (by dsimp only; omega) (.float .f64 (lookT s.2).2)).setNew (p := ⟨W0.heap.size + 1, 1, none⟩) (by dsimp only; omega) (.float .f64 (lookT s.2).1))⟩
  ·have HEJ := Ho.mk he
   clear he HEI HE7
   have PL : Ho (∀ w, Calls Tryz.prog 159 #[.int .i64 2] w (fun r w' => r = .returned (.tuple #[.bool true, .bool true, .bool false]) ∧ Bel w w')) := ⟨fun w => U2.dPlace (e := 2) w (by decide) rfl⟩
   have y0 := K5.out.cell (i := 0) rfl
   have y1 := K5.out.cell (i := 1) rfl
   have y2 := K5.out.cell (i := 2) rfl
   go_wp2_with fail
   (with_reducible refine (PL.out _).mono ?_); rintro e w9 ⟨rfl, b9⟩
   have K6b := Ho.mk (K6.out.bel b9)
   have KRb := Ho.mk (KR.out.bel b9)
   have Mb := Ho.mk (M.out.bel b9)
   have Gb := Ho.mk (G.out.trans (b9.gr bm))
   clear y0 y1 y2 b9
   have y0 := K6b.out.cell (i := 0) rfl
   have z0 := K6b.out.free 0
   have x0 := KRb.out.cell (i := 0) rfl
   have v0 := KRb.out.free 0
   have y1 := K6b.out.cell (i := 1) rfl
   have z1 := K6b.out.free 1
   have x1 := KRb.out.cell (i := 1) rfl
   have v1 := KRb.out.free 1
   have hne : ¬ (p5 + 1 = W0.heap.size + 1) := by omega
   have hne2 : ¬ (W0.heap.size + 1 = p5 + 1) := by omega
   go_upto_region 13 with fail
   have K6c : Ho (Blk (((w9.setCell ⟨p5 + 1, 0, none⟩ (.float .f64 (lookT s.2).2)).setCell ⟨p5 + 1, 1, none⟩ (.float .f64 (lookT s.2).1)).setCell ⟨p5 + 1, 0, none⟩ (.float .f64 (Op.negFloat .f64 (lookT s.2).2))) (p5 + 1) 145 [.float .f64 (Op.negFloat .f64 (lookT s.2).2), .float .f64 (lookT s.2).1]) := ⟨(((K6b.out.set 0 (.float .f64 (lookT s.2).2)).set 1 (.float .f64 (lookT s.2).1)).set 0 (.float .f64 (Op.negFloat .f64 (lookT s.2).2)))⟩
   have KRb := Ho.mk (((KRb.out.far (p := ⟨p5 + 1, 0, none⟩) (by dsimp only; omega) (.float .f64 (lookT s.2).2)).far (p := ⟨p5 + 1, 1, none⟩) (by dsimp only; omega) (.float .f64 (lookT s.2).1)).far (p := ⟨p5 + 1, 0, none⟩) (by dsimp only; omega) (.float .f64 (Op.negFloat .f64 (lookT s.2).2)))
   have Mb := Ho.mk (Mp.far (Mp.far (Mp.far Mb.out (p := ⟨p5 + 1, 0, none⟩) (by dsimp only; omega) (.float .f64 (lookT s.2).2)) (p := ⟨p5 + 1, 1, none⟩) (by dsimp only; omega) (.float .f64 (lookT s.2).1)) (p := ⟨p5 + 1, 0, none⟩) (by dsimp only; omega) (.float .f64 (Op.negFloat .f64 (lookT s.2).2)))
   have Gb := Ho.mk (((Gb.out.setNew (p := ⟨p5 + 1, 0, none⟩) (by dsimp only; omega) (.float .f64 (lookT s.2).2)).setNew (p := ⟨p5 + 1, 1, none⟩) (by dsimp only; omega) (.float .f64 (lookT s.2).1)).setNew (p := ⟨p5 + 1, 0, none⟩) (by dsimp only; omega) (.float .f64 (Op.negFloat .f64 (lookT s.2).2)))
   clear y0 y1 z0 z1 x0 x1 v0 v1
   generalize (((w9.setCell ⟨p5 + 1, 0, none⟩ (.float .f64 (lookT s.2).2)).setCell ⟨p5 + 1, 1, none⟩ (.float .f64 (lookT s.2).1)).setCell ⟨p5 + 1, 0, none⟩ (.float .f64 (Op.negFloat .f64 (lookT s.2).2))) = wz at *
   have y0 := K6c.out.cell (i := 0) rfl
   have z0 := K6c.out.free 0
   have x0 := KRb.out.cell (i := 0) rfl
   have v0 := KRb.out.free 0
   have y1 := K6c.out.cell (i := 1) rfl
   have z1 := K6c.out.free 1
   have x1 := KRb.out.cell (i := 1) rfl
   have v1 := KRb.out.free 1
   go_wp2
   exact bodyPost_ret (res2f (fn := Tryz.f128) rfl rfl ((KRb.out.set 0 (.float .f64 (Op.negFloat .f64 (lookT s.2).2))).set 1 (.float .f64 (lookT s.2).1))) rfl ⟨(Op.negFloat .f64 (lookT s.2).2), (lookT s.2).1, rfl, (fng_lt' HLC.out.2.2.2), HLC.out.2.2.1, (by rw [HEJ.out]; exact (neg_cn HLC.out.2.2.2).trans (congrArg fng HLC.out.2.1)), (by rw [HEJ.out]; exact HLC.out.1), (Mp.far (Mp.far Mb.out (p := ⟨W0.heap.size + 1, 0, none⟩) (by dsimp only; omega) (.float .f64 (Op.negFloat .f64 (lookT s.2).2))) (p := ⟨W0.heap.size + 1, 1, none⟩) (by dsimp only; omega) (.float .f64 (lookT s.2).1)), ((Gb.out.setNew (p := ⟨W0.heap.size + 1, 0, none⟩) (by dsimp only; omega) (.float .f64 (Op.negFloat .f64 (lookT s.2).2))).setNew (p := ⟨W0.heap.size + 1, 1, none⟩) (by dsimp only; omega) (.float .f64 (lookT s.2).1))⟩
  ·have HEJ := Ho.mk he
   clear he HEI HE7
   have PL : Ho (∀ w, Calls Tryz.prog 159 #[.int .i64 3] w (fun r w' => r = .returned (.tuple #[.bool false, .bool true, .bool false]) ∧ Bel w w')) := ⟨fun w => U2.dPlace (e := 3) w (by decide) rfl⟩
   have y0 := K5.out.cell (i := 0) rfl
   have y1 := K5.out.cell (i := 1) rfl
   have y2 := K5.out.cell (i := 2) rfl
   go_wp2_with fail
   (with_reducible refine (PL.out _).mono ?_); rintro e w9 ⟨rfl, b9⟩
   have K6b := Ho.mk (K6.out.bel b9)
   have KRb := Ho.mk (KR.out.bel b9)
   have Mb := Ho.mk (M.out.bel b9)
   have Gb := Ho.mk (G.out.trans (b9.gr bm))
   clear y0 y1 y2 b9
   have y0 := K6b.out.cell (i := 0) rfl
   have z0 := K6b.out.free 0
   have x0 := KRb.out.cell (i := 0) rfl
   have v0 := KRb.out.free 0
   have y1 := K6b.out.cell (i := 1) rfl
   have z1 := K6b.out.free 1
   have x1 := KRb.out.cell (i := 1) rfl
   have v1 := KRb.out.free 1
   have hne : ¬ (p5 + 1 = W0.heap.size + 1) := by omega
   have hne2 : ¬ (W0.heap.size + 1 = p5 + 1) := by omega
   go_upto_region 13 with fail
   have K6c : Ho (Blk (w9.setCell ⟨p5 + 1, 0, none⟩ (.float .f64 (Op.negFloat .f64 (lookT s.2).1))) (p5 + 1) 145 [.float .f64 (Op.negFloat .f64 (lookT s.2).1), .float .f64 (lookT s.2).2]) := ⟨(K6b.out.set 0 (.float .f64 (Op.negFloat .f64 (lookT s.2).1)))⟩
   have KRb := Ho.mk (KRb.out.far (p := ⟨p5 + 1, 0, none⟩) (by dsimp only; omega) (.float .f64 (Op.negFloat .f64 (lookT s.2).1)))
   have Mb := Ho.mk (Mp.far Mb.out (p := ⟨p5 + 1, 0, none⟩) (by dsimp only; omega) (.float .f64 (Op.negFloat .f64 (lookT s.2).1)))
   have Gb := Ho.mk (Gb.out.setNew (p := ⟨p5 + 1, 0, none⟩) (by dsimp only; omega) (.float .f64 (Op.negFloat .f64 (lookT s.2).1)))
   clear y0 y1 z0 z1 x0 x1 v0 v1
   generalize (w9.setCell ⟨p5 + 1, 0, none⟩ (.float .f64 (Op.negFloat .f64 (lookT s.2).1))) = wz at *
   have y0 := K6c.out.cell (i := 0) rfl
   have z0 := K6c.out.free 0
   have x0 := KRb.out.cell (i := 0) rfl
   have v0 := KRb.out.free 0
   have y1 := K6c.out.cell (i := 1) rfl
   have z1 := K6c.out.free 1
   have x1 := KRb.out.cell (i := 1) rfl
   have v1 := KRb.out.free 1
   go_wp2
   exact bodyPost_ret (res2f (fn := Tryz.f128) rfl rfl ((KRb.out.set 0 (.float .f64 (Op.negFloat .f64 (lookT s.2).1))).set 1 (.float .f64 (lookT s.2).2))) rfl ⟨(Op.negFloat .f64 (lookT s.2).1), (lookT s.2).2, rfl, (fng_lt' HLC.out.2.2.1), HLC.out.2.2.2, (by rw [HEJ.out]; exact (neg_cn HLC.out.2.2.1).trans (congrArg fng HLC.out.1)), (by rw [HEJ.out]; exact HLC.out.2.1), (Mp.far (Mp.far Mb.out (p := ⟨W0.heap.size + 1, 0, none⟩) (by dsimp only; omega) (.float .f64 (Op.negFloat .f64 (lookT s.2).1))) (p := ⟨W0.heap.size + 1, 1, none⟩) (by dsimp only; omega) (.float .f64 (lookT s.2).2)), ((Gb.out.setNew (p := ⟨W0.heap.size + 1, 0, none⟩) (by dsimp only; omega) (.float .f64 (Op.negFloat .f64 (lookT s.2).1))).setNew (p := ⟨W0.heap.size + 1, 1, none⟩) (by dsimp only; omega) (.float .f64 (lookT s.2).2))⟩
  ·have HEJ := Ho.mk he
   clear he HEI HE7
   have PL : Ho (∀ w, Calls Tryz.prog 159 #[.int .i64 4] w (fun r w' => r = .returned (.tuple #[.bool false, .bool true, .bool true]) ∧ Bel w w')) := ⟨fun w => U2.dPlace (e := 4) w (by decide) rfl⟩
   have y0 := K5.out.cell (i := 0) rfl
   have y1 := K5.out.cell (i := 1) rfl
   have y2 := K5.out.cell (i := 2) rfl
   go_wp2_with fail
   (with_reducible refine (PL.out _).mono ?_); rintro e w9 ⟨rfl, b9⟩
   have K6b := Ho.mk (K6.out.bel b9)
   have KRb := Ho.mk (KR.out.bel b9)
   have Mb := Ho.mk (M.out.bel b9)
   have Gb := Ho.mk (G.out.trans (b9.gr bm))
   clear y0 y1 y2 b9
   have y0 := K6b.out.cell (i := 0) rfl
   have z0 := K6b.out.free 0
   have x0 := KRb.out.cell (i := 0) rfl
   have v0 := KRb.out.free 0
   have y1 := K6b.out.cell (i := 1) rfl
   have z1 := K6b.out.free 1
   have x1 := KRb.out.cell (i := 1) rfl
   have v1 := KRb.out.free 1
   have hne : ¬ (p5 + 1 = W0.heap.size + 1) := by omega
   have hne2 : ¬ (W0.heap.size + 1 = p5 + 1) := by omega
   go_upto_region 13 with fail
   have K6c : Ho (Blk ((w9.setCell ⟨p5 + 1, 0, none⟩ (.float .f64 (Op.negFloat .f64 (lookT s.2).1))).setCell ⟨p5 + 1, 1, none⟩ (.float .f64 (Op.negFloat .f64 (lookT s.2).2))) (p5 + 1) 145 [.float .f64 (Op.negFloat .f64 (lookT s.2).1), .float .f64 (Op.negFloat .f64 (lookT s.2).2)]) := ⟨((K6b.out.set 0 (.float .f64 (Op.negFloat .f64 (lookT s.2).1))).set 1 (.float .f64 (Op.negFloat .f64 (lookT s.2).2)))⟩
   have KRb := Ho.mk ((KRb.out.far (p := ⟨p5 + 1, 0, none⟩) (by dsimp only; omega) (.float .f64 (Op.negFloat .f64 (lookT s.2).1))).far (p := ⟨p5 + 1, 1, none⟩) (by dsimp only; omega) (.float .f64 (Op.negFloat .f64 (lookT s.2).2)))
   have Mb := Ho.mk (Mp.far (Mp.far Mb.out (p := ⟨p5 + 1, 0, none⟩) (by dsimp only; omega) (.float .f64 (Op.negFloat .f64 (lookT s.2).1))) (p := ⟨p5 + 1, 1, none⟩) (by dsimp only; omega) (.float .f64 (Op.negFloat .f64 (lookT s.2).2)))
   have Gb := Ho.mk ((Gb.out.setNew (p := ⟨p5 + 1, 0, none⟩) (by dsimp only; omega) (.float .f64 (Op.negFloat .f64 (lookT s.2).1))).setNew (p := ⟨p5 + 1, 1, none⟩) (by dsimp only; omega) (.float .f64 (Op.negFloat .f64 (lookT s.2).2)))
   clear y0 y1 z0 z1 x0 x1 v0 v1
   generalize ((w9.setCell ⟨p5 + 1, 0, none⟩ (.float .f64 (Op.negFloat .f64 (lookT s.2).1))).setCell ⟨p5 + 1, 1, none⟩ (.float .f64 (Op.negFloat .f64 (lookT s.2).2))) = wz at *
   have y0 := K6c.out.cell (i := 0) rfl
   have z0 := K6c.out.free 0
   have x0 := KRb.out.cell (i := 0) rfl
   have v0 := KRb.out.free 0
   have y1 := K6c.out.cell (i := 1) rfl
   have z1 := K6c.out.free 1
   have x1 := KRb.out.cell (i := 1) rfl
   have v1 := KRb.out.free 1
   go_wp2
   exact bodyPost_ret (res2f (fn := Tryz.f128) rfl rfl ((KRb.out.set 0 (.float .f64 (Op.negFloat .f64 (lookT s.2).1))).set 1 (.float .f64 (Op.negFloat .f64 (lookT s.2).2)))) rfl ⟨(Op.negFloat .f64 (lookT s.2).1), (Op.negFloat .f64 (lookT s.2).2), rfl, (fng_lt' HLC.out.2.2.1), (fng_lt' HLC.out.2.2.2), (by rw [HEJ.out]; exact (neg_cn HLC.out.2.2.1).trans (congrArg fng HLC.out.1)), (by rw [HEJ.out]; exact (neg_cn HLC.out.2.2.2).trans (congrArg fng HLC.out.2.1)), (Mp.far (Mp.far Mb.out (p := ⟨W0.heap.size + 1, 0, none⟩) (by dsimp only; omega) (.float .f64 (Op.negFloat .f64 (lookT s.2).1))) (p := ⟨W0.heap.size + 1, 1, none⟩) (by dsimp only; omega) (.float .f64 (Op.negFloat .f64 (lookT s.2).2))), ((Gb.out.setNew (p := ⟨W0.heap.size + 1, 0, none⟩) (by dsimp only; omega) (.float .f64 (Op.negFloat .f64 (lookT s.2).1))).setNew (p := ⟨W0.heap.size + 1, 1, none⟩) (by dsimp only; omega) (.float .f64 (Op.negFloat .f64 (lookT s.2).2)))⟩
  ·have HEJ := Ho.mk he
   clear he HEI HE7
   have PL : Ho (∀ w, Calls Tryz.prog 159 #[.int .i64 5] w (fun r w' => r = .returned (.tuple #[.bool true, .bool true, .bool true]) ∧ Bel w w')) := ⟨fun w => U2.dPlace (e := 5) w (by decide) rfl⟩
   have y0 := K5.out.cell (i := 0) rfl
   have y1 := K5.out.cell (i := 1) rfl
   have y2 := K5.out.cell (i := 2) rfl
   go_wp2_with fail
   (with_reducible refine (PL.out _).mono ?_); rintro e w9 ⟨rfl, b9⟩
   have K6b := Ho.mk (K6.out.bel b9)
   have KRb := Ho.mk (KR.out.bel b9)
   have Mb := Ho.mk (M.out.bel b9)
   have Gb := Ho.mk (G.out.trans (b9.gr bm))
   clear y0 y1 y2 b9
   have y0 := K6b.out.cell (i := 0) rfl
   have z0 := K6b.out.free 0
   have x0 := KRb.out.cell (i := 0) rfl
   have v0 := KRb.out.free 0
   have y1 := K6b.out.cell (i := 1) rfl
   have z1 := K6b.out.free 1
   have x1 := KRb.out.cell (i := 1) rfl
   have v1 := KRb.out.free 1
   have hne : ¬ (p5 + 1 = W0.heap.size + 1) := by omega
   have hne2 : ¬ (W0.heap.size + 1 = p5 + 1) := by omega
   go_upto_region 13 with fail
   have K6c : Ho (Blk ((((w9.setCell ⟨p5 + 1, 0, none⟩ (.float .f64 (lookT s.2).2)).setCell ⟨p5 + 1, 1, none⟩ (.float .f64 (lookT s.2).1)).setCell ⟨p5 + 1, 0, none⟩ (.float .f64 (Op.negFloat .f64 (lookT s.2).2))).setCell ⟨p5 + 1, 1, none⟩ (.float .f64 (Op.negFloat .f64 (lookT s.2).1))) (p5 + 1) 145 [.float .f64 (Op.negFloat .f64 (lookT s.2).2), .float .f64 (Op.negFloat .f64 (lookT s.2).1)]) := ⟨((((K6b.out.set 0 (.float .f64 (lookT s.2).2)).set 1 (.float .f64 (lookT s.2).1)).set 0 (.float .f64 (Op.negFloat .f64 (lookT s.2).2))).set 1 (.float .f64 (Op.negFloat .f64 (lookT s.2).1)))⟩
   have KRb := Ho.mk ((((KRb.out.far (p := ⟨p5 + 1, 0, none⟩) (by dsimp only; omega) (.float .f64 (lookT s.2).2)).far (p := ⟨p5 + 1, 1, none⟩) (by dsimp only; omega) (.float .f64 (lookT s.2).1)).far (p := ⟨p5 + 1, 0, none⟩) (by dsimp only; omega) (.float .f64 (Op.negFloat .f64 (lookT s.2).2))).far (p := ⟨p5 + 1, 1, none⟩) (by dsimp only; omega) (.float .f64 (Op.negFloat .f64 (lookT s.2).1)))
   have Mb := Ho.mk (Mp.far (Mp.far (Mp.far (Mp.far Mb.out (p := ⟨p5 + 1, 0, none⟩) (by dsimp only; omega) (.float .f64 (lookT s.2).2)) (p := ⟨p5 + 1, 1, none⟩) (by dsimp only; omega) (.float .f64 (lookT s.2).1)) (p := ⟨p5 + 1, 0, none⟩) (by dsimp only; omega) (.float .f64 (Op.negFloat .f64 (lookT s.2).2))) (p := ⟨p5 + 1, 1, none⟩) (by dsimp only; omega) (.float .f64 (Op.negFloat .f64 (lookT s.2).1)))
   have Gb := Ho.mk ((((Gb.out.setNew (p := ⟨p5 + 1, 0, none⟩) (by dsimp only; omega) (.float .f64 (lookT s.2).2)).setNew (p := ⟨p5 + 1, 1, none⟩) (by dsimp only; omega) (.float .f64 (lookT s.2).1)).setNew (p := ⟨p5 + 1, 0, none⟩) (by dsimp only; omega) (.float .f64 (Op.negFloat .f64 (lookT s.2).2))).setNew (p := ⟨p5 + 1, 1, none⟩) (by dsimp only; omega) (.float .f64 (Op.negFloat .f64 (lookT s.2).1)))
   clear y0 y1 z0 z1 x0 x1 v0 v1
   generalize ((((w9.setCell ⟨p5 + 1, 0, none⟩ (.float .f64 (lookT s.2).2)).setCell ⟨p5 + 1, 1, none⟩ (.float .f64 (lookT s.2).1)).setCell ⟨p5 + 1, 0, none⟩ (.float .f64 (Op.negFloat .f64 (lookT s.2).2))).setCell ⟨p5 + 1, 1, none⟩ (.float .f64 (Op.negFloat .f64 (lookT s.2).1))) = wz at *
   have y0 := K6c.out.cell (i := 0) rfl
   have z0 := K6c.out.free 0
   have x0 := KRb.out.cell (i := 0) rfl
   have v0 := KRb.out.free 0
   have y1 := K6c.out.cell (i := 1) rfl
   have z1 := K6c.out.free 1
   have x1 := KRb.out.cell (i := 1) rfl
   have v1 := KRb.out.free 1
   go_wp2
   exact bodyPost_ret (res2f (fn := Tryz.f128) rfl rfl ((KRb.out.set 0 (.float .f64 (Op.negFloat .f64 (lookT s.2).2))).set 1 (.float .f64 (Op.negFloat .f64 (lookT s.2).1)))) rfl ⟨(Op.negFloat .f64 (lookT s.2).2), (Op.negFloat .f64 (lookT s.2).1), rfl, (fng_lt' HLC.out.2.2.2), (fng_lt' HLC.out.2.2.1), (by rw [HEJ.out]; exact (neg_cn HLC.out.2.2.2).trans (congrArg fng HLC.out.2.1)), (by rw [HEJ.out]; exact (neg_cn HLC.out.2.2.1).trans (congrArg fng HLC.out.1)), (Mp.far (Mp.far Mb.out (p := ⟨W0.heap.size + 1, 0, none⟩) (by dsimp only; omega) (.float .f64 (Op.negFloat .f64 (lookT s.2).2))) (p := ⟨W0.heap.size + 1, 1, none⟩) (by dsimp only; omega) (.float .f64 (Op.negFloat .f64 (lookT s.2).1))), ((Gb.out.setNew (p := ⟨W0.heap.size + 1, 0, none⟩) (by dsimp only; omega) (.float .f64 (Op.negFloat .f64 (lookT s.2).2))).setNew (p := ⟨W0.heap.size + 1, 1, none⟩) (by dsimp only; omega) (.float .f64 (Op.negFloat .f64 (lookT s.2).1)))⟩
  ·have HEJ := Ho.mk he
   clear he HEI HE7
   have PL : Ho (∀ w, Calls Tryz.prog 159 #[.int .i64 6] w (fun r w' => r = .returned (.tuple #[.bool true, .bool false, .bool true]) ∧ Bel w w')) := ⟨fun w => U2.dPlace (e := 6) w (by decide) rfl⟩
   have y0 := K5.out.cell (i := 0) rfl
   have y1 := K5.out.cell (i := 1) rfl
   have y2 := K5.out.cell (i := 2) rfl
   go_wp2_with fail
   (with_reducible refine (PL.out _).mono ?_); rintro e w9 ⟨rfl, b9⟩
   have K6b := Ho.mk (K6.out.bel b9)
   have KRb := Ho.mk (KR.out.bel b9)
   have Mb := Ho.mk (M.out.bel b9)
   have Gb := Ho.mk (G.out.trans (b9.gr bm))
   clear y0 y1 y2 b9
   have y0 := K6b.out.cell (i := 0) rfl
   have z0 := K6b.out.free 0
   have x0 := KRb.out.cell (i := 0) rfl
   have v0 := KRb.out.free 0
   have y1 := K6b.out.cell (i := 1) rfl
   have z1 := K6b.out.free 1
   have x1 := KRb.out.cell (i := 1) rfl
   have v1 := KRb.out.free 1
   have hne : ¬ (p5 + 1 = W0.heap.size + 1) := by omega
   have hne2 : ¬ (W0.heap.size + 1 = p5 + 1) := by omega
   go_upto_region 13 with fail
   have K6c : Ho (Blk (((w9.setCell ⟨p5 + 1, 0, none⟩ (.float .f64 (lookT s.2).2)).setCell ⟨p5 + 1, 1, none⟩ (.float .f64 (lookT s.2).1)).setCell ⟨p5 + 1, 1, none⟩ (.float .f64 (Op.negFloat .f64 (lookT s.2).1))) (p5 + 1) 145 [.float .f64 (lookT s.2).2, .float .f64 (Op.negFloat .f64 (lookT s.2).1)]) := ⟨(((K6b.out.set 0 (.float .f64 (lookT s.2).2)).set 1 (.float .f64 (lookT s.2).1)).set 1 (.float .f64 (Op.negFloat .f64 (lookT s.2).1)))⟩
   have KRb := Ho.mk (((KRb.out.far (p := ⟨p5 + 1, 0, none⟩) (by dsimp only; omega) (.float .f64 (lookT s.2).2)).far (p := ⟨p5 + 1, 1, none⟩) (by dsimp only; omega) (.float .f64 (lookT s.2).1)).far (p := ⟨p5 + 1, 1, none⟩) (by dsimp only; omega) (.float .f64 (Op.negFloat .f64 (lookT s.2).1)))
   have Mb := Ho.mk (Mp.far (Mp.far (Mp.far Mb.out (p := ⟨p5 + 1, 0, none⟩) (by dsimp only; omega) (.float .f64 (lookT s.2).2)) (p := ⟨p5 + 1, 1, none⟩) (by dsimp only; omega) (.float .f64 (lookT s.2).1)) (p := ⟨p5 + 1, 1, none⟩) (by dsimp only; omega) (.float .f64 (Op.negFloat .f64 (lookT s.2).1)))
   have Gb := Ho.mk (((Gb.out.setNew (p := ⟨p5 + 1, 0, none⟩) (by dsimp only; omega) (.float .f64 (lookT s.2).2)).setNew (p := ⟨p5 + 1, 1, none⟩) (by dsimp only; omega) (.float .f64 (lookT s.2).1)).setNew (p := ⟨p5 + 1, 1, none⟩) (by dsimp only; omega) (.float .f64 (Op.negFloat .f64 (lookT s.2).1)))
   clear y0 y1 z0 z1 x0 x1 v0 v1
   generalize (((w9.setCell ⟨p5 + 1, 0, none⟩ (.float .f64 (lookT s.2).2)).setCell ⟨p5 + 1, 1, none⟩ (.float .f64 (lookT s.2).1)).setCell ⟨p5 + 1, 1, none⟩ (.float .f64 (Op.negFloat .f64 (lookT s.2).1))) = wz at *
   have y0 := K6c.out.cell (i := 0) rfl
   have z0 := K6c.out.free 0
   have x0 := KRb.out.cell (i := 0) rfl
   have v0 := KRb.out.free 0
   have y1 := K6c.out.cell (i := 1) rfl
   have z1 := K6c.out.free 1
   have x1 := KRb.out.cell (i := 1) rfl
   have v1 := KRb.out.free 1
   go_wp2
   exact bodyPost_ret (res2f (fn := Tryz.f128) rfl rfl ((KRb.out.set 0 (.float .f64 (lookT s.2).2)).set 1 (.float .f64 (Op.negFloat .f64 (lookT s.2).1)))) rfl ⟨(lookT s.2).2, (Op.negFloat .f64 (lookT s.2).1), rfl, HLC.out.2.2.2, (fng_lt' HLC.out.2.2.1), (by rw [HEJ.out]; exact HLC.out.2.1), (by rw [HEJ.out]; exact (neg_cn HLC.out.2.2.1).trans (congrArg fng HLC.out.1)), (Mp.far (Mp.far Mb.out (p := ⟨W0.heap.size + 1, 0, none⟩) (by dsimp only; omega) (.float .f64 (lookT s.2).2)) (p := ⟨W0.heap.size + 1, 1, none⟩) (by dsimp only; omega) (.float .f64 (Op.negFloat .f64 (lookT s.2).1))), ((Gb.out.setNew (p := ⟨W0.heap.size + 1, 0, none⟩) (by dsimp only; omega) (.float .f64 (lookT s.2).2)).setNew (p := ⟨W0.heap.size + 1, 1, none⟩) (by dsimp only; omega) (.float .f64 (Op.negFloat .f64 (lookT s.2).1)))⟩
  ·have HEJ := Ho.mk he
   clear he HEI HE7
   have PL : Ho (∀ w, Calls Tryz.prog 159 #[.int .i64 7] w (fun r w' => r = .returned (.tuple #[.bool false, .bool false, .bool true]) ∧ Bel w w')) := ⟨fun w => U2.dPlace (e := 7) w (by decide) rfl⟩
   have y0 := K5.out.cell (i := 0) rfl
   have y1 := K5.out.cell (i := 1) rfl
   have y2 := K5.out.cell (i := 2) rfl
   go_wp2_with fail
   (with_reducible refine (PL.out _).mono ?_); rintro e w9 ⟨rfl, b9⟩
   have K6b := Ho.mk (K6.out.bel b9)
   have KRb := Ho.mk (KR.out.bel b9)
   have Mb := Ho.mk (M.out.bel b9)
   have Gb := Ho.mk (G.out.trans (b9.gr bm))
   clear y0 y1 y2 b9
   have y0 := K6b.out.cell (i := 0) rfl
   have z0 := K6b.out.free 0
   have x0 := KRb.out.cell (i := 0) rfl
   have v0 := KRb.out.free 0
   have y1 := K6b.out.cell (i := 1) rfl
   have z1 := K6b.out.free 1
   have x1 := KRb.out.cell (i := 1) rfl
   have v1 := KRb.out.free 1
   have hne : ¬ (p5 + 1 = W0.heap.size + 1) := by omega
   have hne2 : ¬ (W0.heap.size + 1 = p5 + 1) := by omega
   go_upto_region 13 with fail
   have K6c : Ho (Blk (w9.setCell ⟨p5 + 1, 1, none⟩ (.float .f64 (Op.negFloat .f64 (lookT s.2).2))) (p5 + 1) 145 [.float .f64 (lookT s.2).1, .float .f64 (Op.negFloat .f64 (lookT s.2).2)]) := ⟨(K6b.out.set 1 (.float .f64 (Op.negFloat .f64 (lookT s.2).2)))⟩
   have KRb := Ho.mk (KRb.out.far (p := ⟨p5 + 1, 1, none⟩) (by dsimp only; omega) (.float .f64 (Op.negFloat .f64 (lookT s.2).2)))
   have Mb := Ho.mk (Mp.far Mb.out (p := ⟨p5 + 1, 1, none⟩) (by dsimp only; omega) (.float .f64 (Op.negFloat .f64 (lookT s.2).2)))
   have Gb := Ho.mk (Gb.out.setNew (p := ⟨p5 + 1, 1, none⟩) (by dsimp only; omega) (.float .f64 (Op.negFloat .f64 (lookT s.2).2)))
   clear y0 y1 z0 z1 x0 x1 v0 v1
   generalize (w9.setCell ⟨p5 + 1, 1, none⟩ (.float .f64 (Op.negFloat .f64 (lookT s.2).2))) = wz at *
   have y0 := K6c.out.cell (i := 0) rfl
   have z0 := K6c.out.free 0
   have x0 := KRb.out.cell (i := 0) rfl
   have v0 := KRb.out.free 0
   have y1 := K6c.out.cell (i := 1) rfl
   have z1 := K6c.out.free 1
   have x1 := KRb.out.cell (i := 1) rfl
   have v1 := KRb.out.free 1
   go_wp2
   exact bodyPost_ret (res2f (fn := Tryz.f128) rfl rfl ((KRb.out.set 0 (.float .f64 (lookT s.2).1)).set 1 (.float .f64 (Op.negFloat .f64 (lookT s.2).2)))) rfl ⟨(lookT s.2).1, (Op.negFloat .f64 (lookT s.2).2), rfl, HLC.out.2.2.1, (fng_lt' HLC.out.2.2.2), (by rw [HEJ.out]; exact HLC.out.1), (by rw [HEJ.out]; exact (neg_cn HLC.out.2.2.2).trans (congrArg fng HLC.out.2.1)), (Mp.far (Mp.far Mb.out (p := ⟨W0.heap.size + 1, 0, none⟩) (by dsimp only; omega) (.float .f64 (lookT s.2).1)) (p := ⟨W0.heap.size + 1, 1, none⟩) (by dsimp only; omega) (.float .f64 (Op.negFloat .f64 (lookT s.2).2))), ((Gb.out.setNew (p := ⟨W0.heap.size + 1, 0, none⟩) (by dsimp only; omega) (.float .f64 (lookT s.2).1)).setNew (p := ⟨W0.heap.size + 1, 1, none⟩) (by dsimp only; omega) (.float .f64 (Op.negFloat .f64 (lookT s.2).2)))⟩
 | false =>
  clear HCS
  go_upto_region 4 with fail
  generalize (w1.alloc (.cells #[.int .i64 ei, .int .i64 rk, .int .i64 rq] 175)).alloc (.cells #[.float .f64 c0, .float .f64 s0] 145) = W3 at *
  generalize w1.heap.size = p5 at *
  have y0 := K5.out.cell (i := 0) rfl
  have y1 := K5.out.cell (i := 1) rfl
  have y2 := K5.out.cell (i := 2) rfl
  refine I7.wp_region_late 7 (S := fun w' => Bel W3 w') (by kernel_rfl) (Bel.refl _).drew (fun hHeld => ?_)
  (try dsimp only at hHeld)
  refine I7.kt (i := 0) hHeld ?_
  refine I7.kl (i := 1) (v := ?_) hHeld (fun w hSw => ?_) ?_
  rotate_left
  ·(have z0 := hSw.cell y1; have z1 := hSw.cell y2; go_simp; try (with_reducible rfl))
  refine I7.kt (i := 3) hHeld ?_
  refine I7.kl (i := 4) (v := ?_) hHeld (fun w hSw => ?_) ?_
  rotate_left
  ·(have z0 := hSw.cell y1; have z1 := hSw.cell y2; go_simp; try (with_reducible rfl))
  try simp only [Act.put, List.setIfInBounds_toArray, List.set_cons_zero, List.set_cons_succ]
  refine I7.kc (i := 2) (fun K hK => ?_)
  go_simp
  go_at_call 157
  (with_reducible refine (TC.out _ (TT.out.bel (g2.out.trans hHeld))).mono ?_); rintro e w5 ⟨rfl, b5⟩
  try go_wp2_with fail
  refine hK.out _ _ (Bel.trans hHeld b5) (fun hHeld => ?_)
  clear hK K
  try simp only [Act.put, List.setIfInBounds_toArray, List.set_cons_zero, List.set_cons_succ]
  refine I7.kc (i := 5) (fun K hK => ?_)
  go_simp
  go_at_call 158
  (with_reducible refine (TS.out _ (TT.out.bel (g2.out.trans hHeld))).mono ?_); rintro e w6 ⟨rfl, b6⟩
  try go_wp2_with fail
  refine hK.out _ _ (Bel.trans hHeld b6) (fun hHeld => ?_)
  clear hK K
  refine I7.kt (i := 6) hHeld ?_
  have K6 := Ho.mk (K6.out.bel hHeld)
  have K5 := Ho.mk (K5.out.bel hHeld)
  have KR := Ho.mk (KR.out.bel hHeld)
  have M := Ho.mk (M.out.bel hHeld)
  have g2 := Ho.mk (g2.out.trans hHeld)
  clear y0 y1 y2 hHeld
  have y0 := K6.out.cell (i := 0) rfl
  have y1 := K6.out.cell (i := 1) rfl
  have z0 := K6.out.free 0
  have z1 := K6.out.free 1
  try simp only [Act.put, List.setIfInBounds_toArray, List.set_cons_zero, List.set_cons_succ]
  refine I7.ke (i := 7) (fun K hK => ?_)
  go_simp
  refine hK.out _ _ ?_
  clear hK K
  try simp only [Act.put, List.setIfInBounds_toArray, List.set_cons_zero, List.set_cons_succ]
  refine wpAny_done (by kernel_rfl) ?_ _
  have K6 := Ho.mk ((K6.out.set 0 (.float .f64 (lookT s.2).1)).set 1 (.float .f64 (lookT s.2).2))
  have K5 := Ho.mk ((K5.out.far (p := ⟨p5 + 1, 0, none⟩) (by dsimp only; omega) (.float .f64 (lookT s.2).1)).far (p := ⟨p5 + 1, 1, none⟩) (by dsimp only; omega) (.float .f64 (lookT s.2).2))
  have KR := Ho.mk ((KR.out.far (p := ⟨p5 + 1, 0, none⟩) (by dsimp only; omega) (.float .f64 (lookT s.2).1)).far (p := ⟨p5 + 1, 1, none⟩) (by dsimp only; omega) (.float .f64 (lookT s.2).2))
  have M := Ho.mk (Mp.far (Mp.far M.out (p := ⟨p5 + 1, 0, none⟩) (by dsimp only; omega) (.float .f64 (lookT s.2).1)) (p := ⟨p5 + 1, 1, none⟩) (by dsimp only; omega) (.float .f64 (lookT s.2).2))
  have g2 := Ho.mk (show Bel W0 ((w6.setCell ⟨p5 + 1, 0, none⟩ (.float .f64 (lookT s.2).1)).setCell ⟨p5 + 1, 1, none⟩ (.float .f64 (lookT s.2).2)) from
   ⟨(g2.out.out.setCell (p := ⟨p5 + 1, 0, none⟩) (by dsimp only; omega) _).setCell (p := ⟨p5 + 1, 1, none⟩) (by dsimp only; omega) _⟩)
  simp only [List.set_cons_zero, List.set_cons_succ] at K6
  clear y0 y1 z0 z1
  generalize (w6.setCell ⟨p5 + 1, 0, none⟩ (.float .f64 (lookT s.2).1)).setCell ⟨p5 + 1, 1, none⟩ (.float .f64 (lookT s.2).2) = W8 at *
  have y0 := K6.out.cell (i := 0) rfl
  have y1 := K6.out.cell (i := 1) rfl
  have x0 := K5.out.cell (i := 0) rfl
  have x1 := K5.out.cell (i := 1) rfl
  have x2 := K5.out.cell (i := 2) rfl
  go_upto_region 6 with (first | (at_mapUpdate; refine wpList_put _ rfl rfl _ _ _ rfl M.out hn rfl (r := s.2) H64.out H9.out HRK.out HRQ.out rfl rfl ?_; intro wc m1 gc) | fail)
  have hlt5 := K5.out.lt
  have M3 := M.out.lt
  have K6 : Ho (Blk wc (p5 + 1) 145 [.float .f64 (lookT s.2).1, .float .f64 (lookT s.2).2]) := ⟨gc.blk K6.out (by omega)⟩
  have K5 := Ho.mk (gc.blk K5.out (by omega))
  have KR := Ho.mk (gc.blk KR.out (by omega))
  have G := Ho.mk ((g2.out.gr bm).trans gc)
  have TT : Ho (Tab wc) := ⟨tab_gr (TT.out.bel g2.out) gc (by have := I4.Tab.lt TT.out; intro e; exact hb2 e)⟩
  have M := Ho.mk m1
  clear x0 x1 x2 y0 y1 g2 m1 gc M3 hlt5
  rcases (show (s.1 = 0 ∧ ei = 0) ∨ (s.1 = 1 ∧ ei = 1) ∨ (s.1 = 2 ∧ ei = 2) ∨ (s.1 = 3 ∧ ei = 3) ∨ (s.1 = 4 ∧ ei = 4) ∨ (s.1 = 5 ∧ ei = 5) ∨ (s.1 = 6 ∧ ei = 6) ∨ (s.1 = 7 ∧ ei = 7) by have := HE7.out; have := HEI.out; omega) with ⟨he, rfl⟩ | ⟨he, rfl⟩ | ⟨he, rfl⟩ | ⟨he, rfl⟩ | ⟨he, rfl⟩ | ⟨he, rfl⟩ | ⟨he, rfl⟩ | ⟨he, rfl⟩
  ·have HEJ := Ho.mk he
   clear he HEI HE7
   have PL : Ho (∀ w, Calls Tryz.prog 159 #[.int .i64 0] w (fun r w' => r = .returned (.tuple #[.bool false, .bool false, .bool false]) ∧ Bel w w')) := ⟨fun w => U2.dPlace (e := 0) w (by decide) rfl⟩
   have y0 := K5.out.cell (i := 0) rfl
   have y1 := K5.out.cell (i := 1) rfl
   have y2 := K5.out.cell (i := 2) rfl
   go_wp2_with fail
   (with_reducible refine (PL.out _).mono ?_); rintro e w9 ⟨rfl, b9⟩
   have K6b := Ho.mk (K6.out.bel b9)
   have KRb := Ho.mk (KR.out.bel b9)
   have Mb := Ho.mk (M.out.bel b9)
   have Gb := Ho.mk (G.out.trans (b9.gr bm))
   clear y0 y1 y2 b9
   have y0 := K6b.out.cell (i := 0) rfl
   have z0 := K6b.out.free 0
   have x0 := KRb.out.cell (i := 0) rfl
   have v0 := KRb.out.free 0
   have y1 := K6b.out.cell (i := 1) rfl
   have z1 := K6b.out.free 1
   have x1 := KRb.out.cell (i := 1) rfl
   have v1 := KRb.out.free 1
   have hne : ¬ (p5 + 1 = W0.heap.size + 1) := by omega
   have hne2 : ¬ (W0.heap.size + 1 = p5 + 1) := by omega
   go_upto_region 13 with fail
   go_wp2
   exact bodyPost_ret (res2f (fn := Tryz.f128) rfl rfl ((KRb.out.set 0 (.float .f64 (lookT s.2).1)).set 1 (.float .f64 (lookT s.2).2))) rfl ⟨(lookT s.2).1, (lookT s.2).2, rfl, HLC.out.2.2.1, HLC.out.2.2.2, (by rw [HEJ.out]; exact HLC.out.1), (by rw [HEJ.out]; exact HLC.out.2.1), (Mp.far (Mp.far Mb.out (p := ⟨W0.heap.size + 1, 0, none⟩) (by dsimp only; omega) (.float .f64 (lookT s.2).1)) (p := ⟨W0.heap.size + 1, 1, none⟩) (by dsimp only; omega) (.float .f64 (lookT s.2).2)), ((Gb.out.setNew (p := ⟨W0.heap.size + 1, 0, none⟩) (by dsimp only; omega) (.float .f64 (lookT s.2).1)).setNew (p := ⟨W0.heap.size + 1, 1, none⟩) (by dsimp only; omega) (.float .f64 (lookT s.2).2))⟩
  ·have HEJ := Ho.mk he
   clear he HEI HE7
   have PL : Ho (∀ w, Calls Tryz.prog 159 #[.int .i64 1] w (fun r w' => r = .returned (.tuple #[.bool true, .bool false, .bool false]) ∧ Bel w w')) := ⟨fun w => U2.dPlace (e := 1) w (by decide) rfl⟩
   have y0 := K5.out.cell (i := 0) rfl
   have y1 := K5.out.cell (i := 1) rfl
   have y2 := K5.out.cell (i := 2) rfl
   go_wp2_with fail
   (with_reducible refine (PL.out _).mono ?_); rintro e w9 ⟨rfl, b9⟩
   have K6b := Ho.mk (K6.out.bel b9)
   have KRb := Ho.mk (KR.out.bel b9)
   have Mb := Ho.mk (M.out.bel b9)
   have Gb := Ho.mk (G.out.trans (b9.gr bm))
   clear y0 y1 y2 b9
   have y0 := K6b.out.cell (i := 0) rfl
   have z0 := K6b.out.free 0
   have x0 := KRb.out.cell (i := 0) rfl
   have v0 := KRb.out.free 0
   have y1 := K6b.out.cell (i := 1) rfl
   have z1 := K6b.out.free 1
   have x1 := KRb.out.cell (i := 1) rfl
   have v1 := KRb.out.free 1
   have hne : ¬ (p5 + 1 = W0.heap.size + 1) := by omega
   have hne2 : ¬ (W0.heap.size + 1 = p5 + 1) := by omega
   go_upto_region 13 with fail
   have K6c : Ho (Blk ((w9.setCell ⟨p5 + 1, 0, none⟩ (.float .f64 (lookT s.2).2)).setCell ⟨p5 + 1, 1, none⟩ (.float .f64 (lookT s.2).1)) (p5 + 1) 145 [.float .f64 (lookT s.2).2, .float .f64 (lookT s.2).1]) := ⟨((K6b.out.set 0 (.float .f64 (lookT s.2).2)).set 1 (.float .f64 (lookT s.2).1))⟩
   have KRb := Ho.mk ((KRb.out.far (p := ⟨p5 + 1, 0, none⟩) (by dsimp only; omega) (.float .f64 (lookT s.2).2)).far (p := ⟨p5 + 1, 1, none⟩) (by dsimp only; omega) (.float .f64 (lookT s.2).1))
   have Mb := Ho.mk (Mp.far (Mp.far Mb.out (p := ⟨p5 + 1, 0, none⟩) (by dsimp only; omega) (.float .f64 (lookT s.2).2)) (p := ⟨p5 + 1, 1, none⟩) (by dsimp only; omega) (.float .f64 (lookT s.2).1))
   have Gb := Ho.mk ((Gb.out.setNew (p := ⟨p5 + 1, 0, none⟩) (by dsimp only; omega) (.float .f64 (lookT s.2).2)).setNew (p := ⟨p5 + 1, 1, none⟩) (by dsimp only; omega) (.float .f64 (lookT s.2).1))
   clear y0 y1 z0 z1 x0 x1 v0 v1
   generalize ((w9.setCell ⟨p5 + 1, 0, none⟩ (.float .f64 (lookT s.2).2)).setCell ⟨p5 + 1, 1, none⟩ (.float .f64 (lookT s.2).1)) = wz at *
   have y0 := K6c.out.cell (i := 0) rfl
   have z0 := K6c.out.free 0
   have x0 := KRb.out.cell (i := 0) rfl
   have v0 := KRb.out.free 0
   have y1 := K6c.out.cell (i := 1) rfl
   have z1 := K6c.out.free 1
   have x1 := KRb.out.cell (i := 1) rfl
   have v1 := KRb.out.free 1
   go_wp2
   exact bodyPost_ret (res2f (fn := Tryz.f128) rfl rfl ((KRb.out.set 0 (.float .f64 (lookT s.2).2)).set 1 (.float .f64 (lookT s.2).1))) rfl ⟨(lookT s.2).2, (lookT s.2).1, rfl, HLC.out.2.2.2, HLC.out.2.2.1, (by rw [HEJ.out]; exact HLC.out.2.1), (by rw [HEJ.out]; exact HLC.out.1), (Mp.far (Mp.far Mb.out (p := ⟨W0.heap.size + 1, 0, none⟩) (by dsimp only; omega) (.float .f64 (lookT s.2).2)) (p := ⟨W0.heap.size + 1, 1, none⟩) (by dsimp only; omega) (.float .f64 (lookT s.2).1)), ((Gb.out.setNew (p := ⟨W0.heap.size + 1, 0, none⟩) (by dsimp only; omega) (.float .f64 (lookT s.2).2)).setNew (p := ⟨W0.heap.size + 1, 1, none⟩) (by dsimp only; omega) (.float .f64 (lookT s.2).1))⟩
  ·have HEJ := Ho.mk he
   clear he HEI HE7
   have PL : Ho (∀ w, Calls Tryz.prog 159 #[.int .i64 2] w (fun r w' => r = .returned (.tuple #[.bool true, .bool true, .bool false]) ∧ Bel w w')) := ⟨fun w => U2.dPlace (e := 2) w (by decide) rfl⟩
   have y0 := K5.out.cell (i := 0) rfl
   have y1 := K5.out.cell (i := 1) rfl
   have y2 := K5.out.cell (i := 2) rfl
   go_wp2_with fail
   (with_reducible refine (PL.out _).mono ?_); rintro e w9 ⟨rfl, b9⟩
   have K6b := Ho.mk (K6.out.bel b9)
   have KRb := Ho.mk (KR.out.bel b9)
   have Mb := Ho.mk (M.out.bel b9)
   have Gb := Ho.mk (G.out.trans (b9.gr bm))
   clear y0 y1 y2 b9
   have y0 := K6b.out.cell (i := 0) rfl
   have z0 := K6b.out.free 0
   have x0 := KRb.out.cell (i := 0) rfl
   have v0 := KRb.out.free 0
   have y1 := K6b.out.cell (i := 1) rfl
   have z1 := K6b.out.free 1
   have x1 := KRb.out.cell (i := 1) rfl
   have v1 := KRb.out.free 1
   have hne : ¬ (p5 + 1 = W0.heap.size + 1) := by omega
   have hne2 : ¬ (W0.heap.size + 1 = p5 + 1) := by omega
   go_upto_region 13 with fail
   have K6c : Ho (Blk (((w9.setCell ⟨p5 + 1, 0, none⟩ (.float .f64 (lookT s.2).2)).setCell ⟨p5 + 1, 1, none⟩ (.float .f64 (lookT s.2).1)).setCell ⟨p5 + 1, 0, none⟩ (.float .f64 (Op.negFloat .f64 (lookT s.2).2))) (p5 + 1) 145 [.float .f64 (Op.negFloat .f64 (lookT s.2).2), .float .f64 (lookT s.2).1]) := ⟨(((K6b.out.set 0 (.float .f64 (lookT s.2).2)).set 1 (.float .f64 (lookT s.2).1)).set 0 (.float .f64 (Op.negFloat .f64 (lookT s.2).2)))⟩
   have KRb := Ho.mk (((KRb.out.far (p := ⟨p5 + 1, 0, none⟩) (by dsimp only; omega) (.float .f64 (lookT s.2).2)).far (p := ⟨p5 + 1, 1, none⟩) (by dsimp only; omega) (.float .f64 (lookT s.2).1)).far (p := ⟨p5 + 1, 0, none⟩) (by dsimp only; omega) (.float .f64 (Op.negFloat .f64 (lookT s.2).2)))
   have Mb := Ho.mk (Mp.far (Mp.far (Mp.far Mb.out (p := ⟨p5 + 1, 0, none⟩) (by dsimp only; omega) (.float .f64 (lookT s.2).2)) (p := ⟨p5 + 1, 1, none⟩) (by dsimp only; omega) (.float .f64 (lookT s.2).1)) (p := ⟨p5 + 1, 0, none⟩) (by dsimp only; omega) (.float .f64 (Op.negFloat .f64 (lookT s.2).2)))
   have Gb := Ho.mk (((Gb.out.setNew (p := ⟨p5 + 1, 0, none⟩) (by dsimp only; omega) (.float .f64 (lookT s.2).2)).setNew (p := ⟨p5 + 1, 1, none⟩) (by dsimp only; omega) (.float .f64 (lookT s.2).1)).setNew (p := ⟨p5 + 1, 0, none⟩) (by dsimp only; omega) (.float .f64 (Op.negFloat .f64 (lookT s.2).2)))
   clear y0 y1 z0 z1 x0 x1 v0 v1
   generalize (((w9.setCell ⟨p5 + 1, 0, none⟩ (.float .f64 (lookT s.2).2)).setCell ⟨p5 + 1, 1, none⟩ (.float .f64 (lookT s.2).1)).setCell ⟨p5 + 1, 0, none⟩ (.float .f64 (Op.negFloat .f64 (lookT s.2).2))) = wz at *
   have y0 := K6c.out.cell (i := 0) rfl
   have z0 := K6c.out.free 0
   have x0 := KRb.out.cell (i := 0) rfl
   have v0 := KRb.out.free 0
   have y1 := K6c.out.cell (i := 1) rfl
   have z1 := K6c.out.free 1
   have x1 := KRb.out.cell (i := 1) rfl
   have v1 := KRb.out.free 1
   go_wp2
   exact bodyPost_ret (res2f (fn := Tryz.f128) rfl rfl ((KRb.out.set 0 (.float .f64 (Op.negFloat .f64 (lookT s.2).2))).set 1 (.float .f64 (lookT s.2).1))) rfl ⟨(Op.negFloat .f64 (lookT s.2).2), (lookT s.2).1, rfl, (fng_lt' HLC.out.2.2.2), HLC.out.2.2.1, (by rw [HEJ.out]; exact (neg_cn HLC.out.2.2.2).trans (congrArg fng HLC.out.2.1)), (by rw [HEJ.out]; exact HLC.out.1), (Mp.far (Mp.far Mb.out (p := ⟨W0.heap.size + 1, 0, none⟩) (by dsimp only; omega) (.float .f64 (Op.negFloat .f64 (lookT s.2).2))) (p := ⟨W0.heap.size + 1, 1, none⟩) (by dsimp only; omega) (.float .f64 (lookT s.2).1)), ((Gb.out.setNew (p := ⟨W0.heap.size + 1, 0, none⟩) (by dsimp only; omega) (.float .f64 (Op.negFloat .f64 (lookT s.2).2))).setNew (p := ⟨W0.heap.size + 1, 1, none⟩) (by dsimp only; omega) (.float .f64 (lookT s.2).1))⟩
  ·have HEJ := Ho.mk he
   clear he HEI HE7
   have PL : Ho (∀ w, Calls Tryz.prog 159 #[.int .i64 3] w (fun r w' => r = .returned (.tuple #[.bool false, .bool true, .bool false]) ∧ Bel w w')) := ⟨fun w => U2.dPlace (e := 3) w (by decide) rfl⟩
   have y0 := K5.out.cell (i := 0) rfl
   have y1 := K5.out.cell (i := 1) rfl
   have y2 := K5.out.cell (i := 2) rfl
   go_wp2_with fail
   (with_reducible refine (PL.out _).mono ?_); rintro e w9 ⟨rfl, b9⟩
   have K6b := Ho.mk (K6.out.bel b9)
   have KRb := Ho.mk (KR.out.bel b9)
   have Mb := Ho.mk (M.out.bel b9)
   have Gb := Ho.mk (G.out.trans (b9.gr bm))
   clear y0 y1 y2 b9
   have y0 := K6b.out.cell (i := 0) rfl
   have z0 := K6b.out.free 0
   have x0 := KRb.out.cell (i := 0) rfl
   have v0 := KRb.out.free 0
   have y1 := K6b.out.cell (i := 1) rfl
   have z1 := K6b.out.free 1
   have x1 := KRb.out.cell (i := 1) rfl
   have v1 := KRb.out.free 1
   have hne : ¬ (p5 + 1 = W0.heap.size + 1) := by omega
   have hne2 : ¬ (W0.heap.size + 1 = p5 + 1) := by omega
   go_upto_region 13 with fail
   have K6c : Ho (Blk (w9.setCell ⟨p5 + 1, 0, none⟩ (.float .f64 (Op.negFloat .f64 (lookT s.2).1))) (p5 + 1) 145 [.float .f64 (Op.negFloat .f64 (lookT s.2).1), .float .f64 (lookT s.2).2]) := ⟨(K6b.out.set 0 (.float .f64 (Op.negFloat .f64 (lookT s.2).1)))⟩
   have KRb := Ho.mk (KRb.out.far (p := ⟨p5 + 1, 0, none⟩) (by dsimp only; omega) (.float .f64 (Op.negFloat .f64 (lookT s.2).1)))
   have Mb := Ho.mk (Mp.far Mb.out (p := ⟨p5 + 1, 0, none⟩) (by dsimp only; omega) (.float .f64 (Op.negFloat .f64 (lookT s.2).1)))
   have Gb := Ho.mk (Gb.out.setNew (p := ⟨p5 + 1, 0, none⟩) (by dsimp only; omega) (.float .f64 (Op.negFloat .f64 (lookT s.2).1)))
   clear y0 y1 z0 z1 x0 x1 v0 v1
   generalize (w9.setCell ⟨p5 + 1, 0, none⟩ (.float .f64 (Op.negFloat .f64 (lookT s.2).1))) = wz at *
   have y0 := K6c.out.cell (i := 0) rfl
   have z0 := K6c.out.free 0
   have x0 := KRb.out.cell (i := 0) rfl
   have v0 := KRb.out.free 0
   have y1 := K6c.out.cell (i := 1) rfl
   have z1 := K6c.out.free 1
   have x1 := KRb.out.cell (i := 1) rfl
   have v1 := KRb.out.free 1
   go_wp2
   exact bodyPost_ret (res2f (fn := Tryz.f128) rfl rfl ((KRb.out.set 0 (.float .f64 (Op.negFloat .f64 (lookT s.2).1))).set 1 (.float .f64 (lookT s.2).2))) rfl ⟨(Op.negFloat .f64 (lookT s.2).1), (lookT s.2).2, rfl, (fng_lt' HLC.out.2.2.1), HLC.out.2.2.2, (by rw [HEJ.out]; exact (neg_cn HLC.out.2.2.1).trans (congrArg fng HLC.out.1)), (by rw [HEJ.out]; exact HLC.out.2.1), (Mp.far (Mp.far Mb.out (p := ⟨W0.heap.size + 1, 0, none⟩) (by dsimp only; omega) (.float .f64 (Op.negFloat .f64 (lookT s.2).1))) (p := ⟨W0.heap.size + 1, 1, none⟩) (by dsimp only; omega) (.float .f64 (lookT s.2).2)), ((Gb.out.setNew (p := ⟨W0.heap.size + 1, 0, none⟩) (by dsimp only; omega) (.float .f64 (Op.negFloat .f64 (lookT s.2).1))).setNew (p := ⟨W0.heap.size + 1, 1, none⟩) (by dsimp only; omega) (.float .f64 (lookT s.2).2))⟩
  ·have HEJ := Ho.mk he
   clear he HEI HE7
   have PL : Ho (∀ w, Calls Tryz.prog 159 #[.int .i64 4] w (fun r w' => r = .returned (.tuple #[.bool false, .bool true, .bool true]) ∧ Bel w w')) := ⟨fun w => U2.dPlace (e := 4) w (by decide) rfl⟩
   have y0 := K5.out.cell (i := 0) rfl
   have y1 := K5.out.cell (i := 1) rfl
   have y2 := K5.out.cell (i := 2) rfl
   go_wp2_with fail
   (with_reducible refine (PL.out _).mono ?_); rintro e w9 ⟨rfl, b9⟩
   have K6b := Ho.mk (K6.out.bel b9)
   have KRb := Ho.mk (KR.out.bel b9)
   have Mb := Ho.mk (M.out.bel b9)
   have Gb := Ho.mk (G.out.trans (b9.gr bm))
   clear y0 y1 y2 b9
   have y0 := K6b.out.cell (i := 0) rfl
   have z0 := K6b.out.free 0
   have x0 := KRb.out.cell (i := 0) rfl
   have v0 := KRb.out.free 0
   have y1 := K6b.out.cell (i := 1) rfl
   have z1 := K6b.out.free 1
   have x1 := KRb.out.cell (i := 1) rfl
   have v1 := KRb.out.free 1
   have hne : ¬ (p5 + 1 = W0.heap.size + 1) := by omega
   have hne2 : ¬ (W0.heap.size + 1 = p5 + 1) := by omega
   go_upto_region 13 with fail
   have K6c : Ho (Blk ((w9.setCell ⟨p5 + 1, 0, none⟩ (.float .f64 (Op.negFloat .f64 (lookT s.2).1))).setCell ⟨p5 + 1, 1, none⟩ (.float .f64 (Op.negFloat .f64 (lookT s.2).2))) (p5 + 1) 145 [.float .f64 (Op.negFloat .f64 (lookT s.2).1), .float .f64 (Op.negFloat .f64 (lookT s.2).2)]) := ⟨((K6b.out.set 0 (.float .f64 (Op.negFloat .f64 (lookT s.2).1))).set 1 (.float .f64 (Op.negFloat .f64 (lookT s.2).2)))⟩
   have KRb := Ho.mk ((KRb.out.far (p := ⟨p5 + 1, 0, none⟩) (by dsimp only; omega) (.float .f64 (Op.negFloat .f64 (lookT s.2).1))).far (p := ⟨p5 + 1, 1, none⟩) (by dsimp only; omega) (.float .f64 (Op.negFloat .f64 (lookT s.2).2)))
   have Mb := Ho.mk (Mp.far (Mp.far Mb.out (p := ⟨p5 + 1, 0, none⟩) (by dsimp only; omega) (.float .f64 (Op.negFloat .f64 (lookT s.2).1))) (p := ⟨p5 + 1, 1, none⟩) (by dsimp only; omega) (.float .f64 (Op.negFloat .f64 (lookT s.2).2)))
   have Gb := Ho.mk ((Gb.out.setNew (p := ⟨p5 + 1, 0, none⟩) (by dsimp only; omega) (.float .f64 (Op.negFloat .f64 (lookT s.2).1))).setNew (p := ⟨p5 + 1, 1, none⟩) (by dsimp only; omega) (.float .f64 (Op.negFloat .f64 (lookT s.2).2)))
   clear y0 y1 z0 z1 x0 x1 v0 v1
   generalize ((w9.setCell ⟨p5 + 1, 0, none⟩ (.float .f64 (Op.negFloat .f64 (lookT s.2).1))).setCell ⟨p5 + 1, 1, none⟩ (.float .f64 (Op.negFloat .f64 (lookT s.2).2))) = wz at *
   have y0 := K6c.out.cell (i := 0) rfl
   have z0 := K6c.out.free 0
   have x0 := KRb.out.cell (i := 0) rfl
   have v0 := KRb.out.free 0
   have y1 := K6c.out.cell (i := 1) rfl
   have z1 := K6c.out.free 1
   have x1 := KRb.out.cell (i := 1) rfl
   have v1 := KRb.out.free 1
   go_wp2
   exact bodyPost_ret (res2f (fn := Tryz.f128) rfl rfl ((KRb.out.set 0 (.float .f64 (Op.negFloat .f64 (lookT s.2).1))).set 1 (.float .f64 (Op.negFloat .f64 (lookT s.2).2)))) rfl ⟨(Op.negFloat .f64 (lookT s.2).1), (Op.negFloat .f64 (lookT s.2).2), rfl, (fng_lt' HLC.out.2.2.1), (fng_lt' HLC.out.2.2.2), (by rw [HEJ.out]; exact (neg_cn HLC.out.2.2.1).trans (congrArg fng HLC.out.1)), (by rw [HEJ.out]; exact (neg_cn HLC.out.2.2.2).trans (congrArg fng HLC.out.2.1)), (Mp.far (Mp.far Mb.out (p := ⟨W0.heap.size + 1, 0, none⟩) (by dsimp only; omega) (.float .f64 (Op.negFloat .f64 (lookT s.2).1))) (p := ⟨W0.heap.size + 1, 1, none⟩) (by dsimp only; omega) (.float .f64 (Op.negFloat .f64 (lookT s.2).2))), ((Gb.out.setNew (p := ⟨W0.heap.size + 1, 0, none⟩) (by dsimp only; omega) (.float .f64 (Op.negFloat .f64 (lookT s.2).1))).setNew (p := ⟨W0.heap.size + 1, 1, none⟩) (by dsimp only; omega) (.float .f64 (Op.negFloat .f64 (lookT s.2).2)))⟩
  ·have HEJ := Ho.mk he
   clear he HEI HE7
   have PL : Ho (∀ w, Calls Tryz.prog 159 #[.int .i64 5] w (fun r w' => r = .returned (.tuple #[.bool true, .bool true, .bool true]) ∧ Bel w w')) := ⟨fun w => U2.dPlace (e := 5) w (by decide) rfl⟩
   have y0 := K5.out.cell (i := 0) rfl
   have y1 := K5.out.cell (i := 1) rfl
   have y2 := K5.out.cell (i := 2) rfl
   go_wp2_with fail
   (with_reducible refine (PL.out _).mono ?_); rintro e w9 ⟨rfl, b9⟩
   have K6b := Ho.mk (K6.out.bel b9)
   have KRb := Ho.mk (KR.out.bel b9)
   have Mb := Ho.mk (M.out.bel b9)
   have Gb := Ho.mk (G.out.trans (b9.gr bm))
   clear y0 y1 y2 b9
   have y0 := K6b.out.cell (i := 0) rfl
   have z0 := K6b.out.free 0
   have x0 := KRb.out.cell (i := 0) rfl
   have v0 := KRb.out.free 0
   have y1 := K6b.out.cell (i := 1) rfl
   have z1 := K6b.out.free 1
   have x1 := KRb.out.cell (i := 1) rfl
   have v1 := KRb.out.free 1
   have hne : ¬ (p5 + 1 = W0.heap.size + 1) := by omega
   have hne2 : ¬ (W0.heap.size + 1 = p5 + 1) := by omega
   go_upto_region 13 with fail
   have K6c : Ho (Blk ((((w9.setCell ⟨p5 + 1, 0, none⟩ (.float .f64 (lookT s.2).2)).setCell ⟨p5 + 1, 1, none⟩ (.float .f64 (lookT s.2).1)).setCell ⟨p5 + 1, 0, none⟩ (.float .f64 (Op.negFloat .f64 (lookT s.2).2))).setCell ⟨p5 + 1, 1, none⟩ (.float .f64 (Op.negFloat .f64 (lookT s.2).1))) (p5 + 1) 145 [.float .f64 (Op.negFloat .f64 (lookT s.2).2), .float .f64 (Op.negFloat .f64 (lookT s.2).1)]) := ⟨((((K6b.out.set 0 (.float .f64 (lookT s.2).2)).set 1 (.float .f64 (lookT s.2).1)).set 0 (.float .f64 (Op.negFloat .f64 (lookT s.2).2))).set 1 (.float .f64 (Op.negFloat .f64 (lookT s.2).1)))⟩
   have KRb := Ho.mk ((((KRb.out.far (p := ⟨p5 + 1, 0, none⟩) (by dsimp only; omega) (.float .f64 (lookT s.2).2)).far (p := ⟨p5 + 1, 1, none⟩) (by dsimp only; omega) (.float .f64 (lookT s.2).1)).far (p := ⟨p5 + 1, 0, none⟩) (by dsimp only; omega) (.float .f64 (Op.negFloat .f64 (lookT s.2).2))).far (p := ⟨p5 + 1, 1, none⟩) (by dsimp only; omega) (.float .f64 (Op.negFloat .f64 (lookT s.2).1)))
   have Mb := Ho.mk (Mp.far (Mp.far (Mp.far (Mp.far Mb.out (p := ⟨p5 + 1, 0, none⟩) (by dsimp only; omega) (.float .f64 (lookT s.2).2)) (p := ⟨p5 + 1, 1, none⟩) (by dsimp only; omega) (.float .f64 (lookT s.2).1)) (p := ⟨p5 + 1, 0, none⟩) (by dsimp only; omega) (.float .f64 (Op.negFloat .f64 (lookT s.2).2))) (p := ⟨p5 + 1, 1, none⟩) (by dsimp only; omega) (.float .f64 (Op.negFloat .f64 (lookT s.2).1)))
   have Gb := Ho.mk ((((Gb.out.setNew (p := ⟨p5 + 1, 0, none⟩) (by dsimp only; omega) (.float .f64 (lookT s.2).2)).setNew (p := ⟨p5 + 1, 1, none⟩) (by dsimp only; omega) (.float .f64 (lookT s.2).1)).setNew (p := ⟨p5 + 1, 0, none⟩) (by dsimp only; omega) (.float .f64 (Op.negFloat .f64 (lookT s.2).2))).setNew (p := ⟨p5 + 1, 1, none⟩) (by dsimp only; omega) (.float .f64 (Op.negFloat .f64 (lookT s.2).1)))
   clear y0 y1 z0 z1 x0 x1 v0 v1
   generalize ((((w9.setCell ⟨p5 + 1, 0, none⟩ (.float .f64 (lookT s.2).2)).setCell ⟨p5 + 1, 1, none⟩ (.float .f64 (lookT s.2).1)).setCell ⟨p5 + 1, 0, none⟩ (.float .f64 (Op.negFloat .f64 (lookT s.2).2))).setCell ⟨p5 + 1, 1, none⟩ (.float .f64 (Op.negFloat .f64 (lookT s.2).1))) = wz at *
   have y0 := K6c.out.cell (i := 0) rfl
   have z0 := K6c.out.free 0
   have x0 := KRb.out.cell (i := 0) rfl
   have v0 := KRb.out.free 0
   have y1 := K6c.out.cell (i := 1) rfl
   have z1 := K6c.out.free 1
   have x1 := KRb.out.cell (i := 1) rfl
   have v1 := KRb.out.free 1
   go_wp2
   exact bodyPost_ret (res2f (fn := Tryz.f128) rfl rfl ((KRb.out.set 0 (.float .f64 (Op.negFloat .f64 (lookT s.2).2))).set 1 (.float .f64 (Op.negFloat .f64 (lookT s.2).1)))) rfl ⟨(Op.negFloat .f64 (lookT s.2).2), (Op.negFloat .f64 (lookT s.2).1), rfl, (fng_lt' HLC.out.2.2.2), (fng_lt' HLC.out.2.2.1), (by rw [HEJ.out]; exact (neg_cn HLC.out.2.2.2).trans (congrArg fng HLC.out.2.1)), (by rw [HEJ.out]; exact (neg_cn HLC.out.2.2.1).trans (congrArg fng HLC.out.1)), (Mp.far (Mp.far Mb.out (p := ⟨W0.heap.size + 1, 0, none⟩) (by dsimp only; omega) (.float .f64 (Op.negFloat .f64 (lookT s.2).2))) (p := ⟨W0.heap.size + 1, 1, none⟩) (by dsimp only; omega) (.float .f64 (Op.negFloat .f64 (lookT s.2).1))), ((Gb.out.setNew (p := ⟨W0.heap.size + 1, 0, none⟩) (by dsimp only; omega) (.float .f64 (Op.negFloat .f64 (lookT s.2).2))).setNew (p := ⟨W0.heap.size + 1, 1, none⟩) (by dsimp only; omega) (.float .f64 (Op.negFloat .f64 (lookT s.2).1)))⟩
  ·have HEJ := Ho.mk he
   clear he HEI HE7
   have PL : Ho (∀ w, Calls Tryz.prog 159 #[.int .i64 6] w (fun r w' => r = .returned (.tuple #[.bool true, .bool false, .bool true]) ∧ Bel w w')) := ⟨fun w => U2.dPlace (e := 6) w (by decide) rfl⟩
   have y0 := K5.out.cell (i := 0) rfl
   have y1 := K5.out.cell (i := 1) rfl
   have y2 := K5.out.cell (i := 2) rfl
   go_wp2_with fail
   (with_reducible refine (PL.out _).mono ?_); rintro e w9 ⟨rfl, b9⟩
   have K6b := Ho.mk (K6.out.bel b9)
   have KRb := Ho.mk (KR.out.bel b9)
   have Mb := Ho.mk (M.out.bel b9)
   have Gb := Ho.mk (G.out.trans (b9.gr bm))
   clear y0 y1 y2 b9
   have y0 := K6b.out.cell (i := 0) rfl
   have z0 := K6b.out.free 0
   have x0 := KRb.out.cell (i := 0) rfl
   have v0 := KRb.out.free 0
   have y1 := K6b.out.cell (i := 1) rfl
   have z1 := K6b.out.free 1
   have x1 := KRb.out.cell (i := 1) rfl
   have v1 := KRb.out.free 1
   have hne : ¬ (p5 + 1 = W0.heap.size + 1) := by omega
   have hne2 : ¬ (W0.heap.size + 1 = p5 + 1) := by omega
   go_upto_region 13 with fail
   have K6c : Ho (Blk (((w9.setCell ⟨p5 + 1, 0, none⟩ (.float .f64 (lookT s.2).2)).setCell ⟨p5 + 1, 1, none⟩ (.float .f64 (lookT s.2).1)).setCell ⟨p5 + 1, 1, none⟩ (.float .f64 (Op.negFloat .f64 (lookT s.2).1))) (p5 + 1) 145 [.float .f64 (lookT s.2).2, .float .f64 (Op.negFloat .f64 (lookT s.2).1)]) := ⟨(((K6b.out.set 0 (.float .f64 (lookT s.2).2)).set 1 (.float .f64 (lookT s.2).1)).set 1 (.float .f64 (Op.negFloat .f64 (lookT s.2).1)))⟩
   have KRb := Ho.mk (((KRb.out.far (p := ⟨p5 + 1, 0, none⟩) (by dsimp only; omega) (.float .f64 (lookT s.2).2)).far (p := ⟨p5 + 1, 1, none⟩) (by dsimp only; omega) (.float .f64 (lookT s.2).1)).far (p := ⟨p5 + 1, 1, none⟩) (by dsimp only; omega) (.float .f64 (Op.negFloat .f64 (lookT s.2).1)))
   have Mb := Ho.mk (Mp.far (Mp.far (Mp.far Mb.out (p := ⟨p5 + 1, 0, none⟩) (by dsimp only; omega) (.float .f64 (lookT s.2).2)) (p := ⟨p5 + 1, 1, none⟩) (by dsimp only; omega) (.float .f64 (lookT s.2).1)) (p := ⟨p5 + 1, 1, none⟩) (by dsimp only; omega) (.float .f64 (Op.negFloat .f64 (lookT s.2).1)))
   have Gb := Ho.mk (((Gb.out.setNew (p := ⟨p5 + 1, 0, none⟩) (by dsimp only; omega) (.float .f64 (lookT s.2).2)).setNew (p := ⟨p5 + 1, 1, none⟩) (by dsimp only; omega) (.float .f64 (lookT s.2).1)).setNew (p := ⟨p5 + 1, 1, none⟩) (by dsimp only; omega) (.float .f64 (Op.negFloat .f64 (lookT s.2).1)))
   clear y0 y1 z0 z1 x0 x1 v0 v1
   generalize (((w9.setCell ⟨p5 + 1, 0, none⟩ (.float .f64 (lookT s.2).2)).setCell ⟨p5 + 1, 1, none⟩ (.float .f64 (lookT s.2).1)).setCell ⟨p5 + 1, 1, none⟩ (.float .f64 (Op.negFloat .f64 (lookT s.2).1))) = wz at *
   have y0 := K6c.out.cell (i := 0) rfl
   have z0 := K6c.out.free 0
   have x0 := KRb.out.cell (i := 0) rfl
   have v0 := KRb.out.free 0
   have y1 := K6c.out.cell (i := 1) rfl
   have z1 := K6c.out.free 1
   have x1 := KRb.out.cell (i := 1) rfl
   have v1 := KRb.out.free 1
   go_wp2
   exact bodyPost_ret (res2f (fn := Tryz.f128) rfl rfl ((KRb.out.set 0 (.float .f64 (lookT s.2).2)).set 1 (.float .f64 (Op.negFloat .f64 (lookT s.2).1)))) rfl ⟨(lookT s.2).2, (Op.negFloat .f64 (lookT s.2).1), rfl, HLC.out.2.2.2, (fng_lt' HLC.out.2.2.1), (by rw [HEJ.out]; exact HLC.out.2.1), (by rw [HEJ.out]; exact (neg_cn HLC.out.2.2.1).trans (congrArg fng HLC.out.1)), (Mp.far (Mp.far Mb.out (p := ⟨W0.heap.size + 1, 0, none⟩) (by dsimp only; omega) (.float .f64 (lookT s.2).2)) (p := ⟨W0.heap.size + 1, 1, none⟩) (by dsimp only; omega) (.float .f64 (Op.negFloat .f64 (lookT s.2).1))), ((Gb.out.setNew (p := ⟨W0.heap.size + 1, 0, none⟩) (by dsimp only; omega) (.float .f64 (lookT s.2).2)).setNew (p := ⟨W0.heap.size + 1, 1, none⟩) (by dsimp only; omega) (.float .f64 (Op.negFloat .f64 (lookT s.2).1)))⟩
  ·have HEJ := Ho.mk he
   clear he HEI HE7
   have PL : Ho (∀ w, Calls Tryz.prog 159 #[.int .i64 7] w (fun r w' => r = .returned (.tuple #[.bool false, .bool false, .bool true]) ∧ Bel w w')) := ⟨fun w => U2.dPlace (e := 7) w (by decide) rfl⟩
   have y0 := K5.out.cell (i := 0) rfl
   have y1 := K5.out.cell (i := 1) rfl
   have y2 := K5.out.cell (i := 2) rfl
   go_wp2_with fail
   (with_reducible refine (PL.out _).mono ?_); rintro e w9 ⟨rfl, b9⟩
   have K6b := Ho.mk (K6.out.bel b9)
   have KRb := Ho.mk (KR.out.bel b9)
   have Mb := Ho.mk (M.out.bel b9)
   have Gb := Ho.mk (G.out.trans (b9.gr bm))
   clear y0 y1 y2 b9
   have y0 := K6b.out.cell (i := 0) rfl
   have z0 := K6b.out.free 0
   have x0 := KRb.out.cell (i := 0) rfl
   have v0 := KRb.out.free 0
   have y1 := K6b.out.cell (i := 1) rfl
   have z1 := K6b.out.free 1
   have x1 := KRb.out.cell (i := 1) rfl
   have v1 := KRb.out.free 1
   have hne : ¬ (p5 + 1 = W0.heap.size + 1) := by omega
   have hne2 : ¬ (W0.heap.size + 1 = p5 + 1) := by omega
   go_upto_region 13 with fail
   have K6c : Ho (Blk (w9.setCell ⟨p5 + 1, 1, none⟩ (.float .f64 (Op.negFloat .f64 (lookT s.2).2))) (p5 + 1) 145 [.float .f64 (lookT s.2).1, .float .f64 (Op.negFloat .f64 (lookT s.2).2)]) := ⟨(K6b.out.set 1 (.float .f64 (Op.negFloat .f64 (lookT s.2).2)))⟩
   have KRb := Ho.mk (KRb.out.far (p := ⟨p5 + 1, 1, none⟩) (by dsimp only; omega) (.float .f64 (Op.negFloat .f64 (lookT s.2).2)))
   have Mb := Ho.mk (Mp.far Mb.out (p := ⟨p5 + 1, 1, none⟩) (by dsimp only; omega) (.float .f64 (Op.negFloat .f64 (lookT s.2).2)))
   have Gb := Ho.mk (Gb.out.setNew (p := ⟨p5 + 1, 1, none⟩) (by dsimp only; omega) (.float .f64 (Op.negFloat .f64 (lookT s.2).2)))
   clear y0 y1 z0 z1 x0 x1 v0 v1
   generalize (w9.setCell ⟨p5 + 1, 1, none⟩ (.float .f64 (Op.negFloat .f64 (lookT s.2).2))) = wz at *
   have y0 := K6c.out.cell (i := 0) rfl
   have z0 := K6c.out.free 0
   have x0 := KRb.out.cell (i := 0) rfl
   have v0 := KRb.out.free 0
   have y1 := K6c.out.cell (i := 1) rfl
   have z1 := K6c.out.free 1
   have x1 := KRb.out.cell (i := 1) rfl
   have v1 := KRb.out.free 1
   go_wp2
   exact bodyPost_ret (res2f (fn := Tryz.f128) rfl rfl ((KRb.out.set 0 (.float .f64 (lookT s.2).1)).set 1 (.float .f64 (Op.negFloat .f64 (lookT s.2).2)))) rfl ⟨(lookT s.2).1, (Op.negFloat .f64 (lookT s.2).2), rfl, HLC.out.2.2.1, (fng_lt' HLC.out.2.2.2), (by rw [HEJ.out]; exact HLC.out.1), (by rw [HEJ.out]; exact (neg_cn HLC.out.2.2.2).trans (congrArg fng HLC.out.2.1)), (Mp.far (Mp.far Mb.out (p := ⟨W0.heap.size + 1, 0, none⟩) (by dsimp only; omega) (.float .f64 (lookT s.2).1)) (p := ⟨W0.heap.size + 1, 1, none⟩) (by dsimp only; omega) (.float .f64 (Op.negFloat .f64 (lookT s.2).2))), ((Gb.out.setNew (p := ⟨W0.heap.size + 1, 0, none⟩) (by dsimp only; omega) (.float .f64 (lookT s.2).1)).setNew (p := ⟨W0.heap.size + 1, 1, none⟩) (by dsimp only; omega) (.float .f64 (Op.negFloat .f64 (lookT s.2).2)))⟩
end S3
namespace S4
open Ieee Go Go.RowKit Go.Proofs Go.Proofs.YtnbdoidccacdnaaGreatDoor Ow Pl Dp Dt Gp F1 I0 T1 U0 U1 W0 S1 S2 S3
attribute [local go_sem ↓] Go.wp_at_zero Go.wp_at_succ
theorem infoF : (Tryz.prog.info? 50).map (fun i => (i.zero, i.size, i.bytes)) = some (some (.float .f64 0), 1, 8) := by kernel_rfl
def upRow (f : Nat → Nat) (m i : Nat) : List Nat := (List.range m).map fun j => if j < i then f j else 0
theorem upRow_len (f : Nat → Nat) (m i : Nat) : (upRow f m i).length = m := by simp [upRow]
theorem upRow_zero (f : Nat → Nat) (m : Nat) : upRow f m 0 = List.replicate m 0 := by
 apply List.ext_getElem (by simp [upRow])
 intro i h1 h2; simp [upRow]
theorem upRow_all (f : Nat → Nat) (m : Nat) : upRow f m m = (List.range m).map f := by
 apply List.ext_getElem (by simp [upRow])
 intro i h1 h2
 simp [upRow] at h1 ⊢
 omega
theorem upRow_set (f : Nat → Nat) (m i : Nat) (hi : i < m) : (upRow f m i).set i (f i) = upRow f m (i + 1) := by
 apply List.ext_getElem (by simp [upRow])
 intro j h1 h2
 simp [upRow] at h1 h2 ⊢
 rw [List.getElem_set]
 by_cases e : i = j
 ·subst e; simp
 ·simp only [if_neg e, List.getElem_map, List.getElem_range]
  by_cases h : j < i
  ·rw [if_pos h, if_pos (by omega)]
  ·rw [if_neg h, if_neg (by omega)]
def TellsC (W0 : World) (x : Nat) (e : Ending) (w' : World) : Prop := ∃ r, e = .returned (.float .f64 r) ∧ r < 2 * sgnW ∧ cn r = x ∧ Bel W0 w'
theorem dRowF {m fn bl : Nat} {mi : Int} (W0 : World) (f : Nat → Nat) (hmi : mi = (m : Int)) (hm : m ≤ 100000) (hfn : fn = 130 ∨ fn = 131)
  (hmade : ∀ k, k < m → ∀ w, Bel W0 w → Calls Tryz.prog fn #[.int .i64 (k : Int), .pointer (some ⟨bl, 0, none⟩)] w (TellsC w (f k))) :
  Calls Tryz.prog 129 #[.int .i64 mi, .func (.func fn) #[] #[.pointer (some ⟨bl, 0, none⟩)]] W0
   fun e w' => ∃ b, e = .returned (.slice (some ⟨b, 0, none⟩) m m) ∧ Fk w' b ((List.range m).map f) ∧ W0.heap.size ≤ b ∧ Bel W0 w' := by
 subst hmi
 have MA := Ho.mk hmade
 clear hmade
 rcases hfn with rfl | rfl
 all_goals
  go_enter Tryz.func129, Tryz.ntmps129
  go_wp2_with (at_make; refine wpList_mk _ rfl _ _ 22 rfl 50 (.float .f64 0) 8 Tryz.underlying22 infoF rfl m rfl rfl (by omega) (by omega) ?_; intro w1 hk1 hl1 hs1)
  obtain ⟨bo, hbo⟩ : ∃ bo, bo = W0.heap.size := ⟨_, rfl⟩
  rw [← hbo] at hk1 hs1 ⊢
  have HK1 := Ho.mk (Fk.zero hk1)
  have HL1 := Ho.mk hl1
  have HBO := Ho.mk hbo
  clear hk1 hl1 hs1 hbo
  go_loopw [11] (fun v wr => ∃ (i : Nat), i ≤ m ∧ v = .int .i64 i ∧ Ho (Fk wr bo (upRow f m i)) ∧ Ho (Bel W0 wr)) (fun v _ => m - (intOf v).toNat)
  case atStart => exact ⟨0, Nat.zero_le _, rfl, ⟨by rw [upRow_zero]; exact HK1.out⟩, HL1⟩
  case round =>
   obtain ⟨i, hi, rfl, FK, HW⟩ := hrel
   rcases Nat.lt_or_ge i m with hlt | hge
   ·have hl2 : i < (upRow f m i).length := by rw [upRow_len]; exact hlt
    go_wp2_with (first | (go_at_call 130; (with_reducible refine (MA.out i hlt _ HW.out).mono ?_); rintro e w5 ⟨r, rfl, r1, r2, b5⟩; have FB := Ho.mk (FK.out.bel b5); obtain ⟨r0, y0, _, _⟩ := FB.out.at_ hl2; have y1 := FB.out.free i) | (go_at_call 131; (with_reducible refine (MA.out i hlt _ HW.out).mono ?_); rintro e w5 ⟨r, rfl, r1, r2, b5⟩; have FB := Ho.mk (FK.out.bel b5); obtain ⟨r0, y0, _, _⟩ := FB.out.at_ hl2; have y1 := FB.out.free i) | fail)
    go_roundw
    case rel =>
     have hk := FB.out.set i r1 r2
     rw [upRow_set f m i hlt] at hk
     exact ⟨i + 1, by omega, by simp, ⟨hk⟩, ⟨⟨(HW.out.trans b5).out.setCell (by have := HBO.out; dsimp only; omega) _⟩⟩⟩
    case measure => simp [intOf]; omega
   ·obtain rfl : i = m := by omega
    rw [upRow_all] at FK
    go_wp2
    go_ret
    exact ⟨bo, rfl, FK.out, by have := HBO.out; omega, HW.out⟩
end S4
namespace S5
open Ieee Go Go.RowKit Go.Proofs Go.Proofs.YtnbdoidccacdnaaGreatDoor Ow Pl Dp Dt Gp F1 I0 T1 U0 U1 W0 S1 S2 S3 S4
attribute [local go_sem ↓] Go.wp_at_zero Go.wp_at_succ
theorem infoP : (Tryz.prog.info? 145).map (fun i => (i.zero, i.size, i.bytes)) = some (some (.agg #[.float .f64 0, .float .f64 0]), 2, 16) := by kernel_rfl
structure Pk (w : World) (b : Nat) (X : List Nat) : Prop where
 out : ∃ cs : List Value, Blk w b 145 cs ∧ cs.length = X.length ∧ ∀ j v, cs[j]? = some v → Fc v (nthN X j)
theorem Pk.bel {w w' : World} {b : Nat} {X : List Nat} (h : Pk w b X) (g : Bel w w') : Pk w' b X := by
 obtain ⟨cs, h1, h2⟩ := h.out; exact ⟨cs, h1.bel g, h2⟩
theorem Pk.lt {w : World} {b : Nat} {X : List Nat} (h : Pk w b X) : b < w.heap.size := by obtain ⟨cs, h1, _⟩ := h.out; exact h1.lt
theorem Pk.gr {w w' : World} {b b' : Nat} {X : List Nat} (h : Pk w b X) (g : Gr b' w w') (ne : b ≠ b') : Pk w' b X := by
 obtain ⟨cs, h1, h2⟩ := h.out; exact ⟨cs, g.blk h1 ne, h2⟩
theorem Pk.at_ {w : World} {b : Nat} {X : List Nat} (h : Pk w b X) {i : Nat} (hi : i < X.length) : ∃ r, w.cell? ⟨b, i, none⟩ = some (.float .f64 r) ∧ r < 2 * sgnW ∧ cn r = nthN X i := by
 obtain ⟨cs, h1, h2, h3⟩ := h.out
 have hc : cs[i]? = some cs[i] := List.getElem?_eq_getElem (by omega)
 obtain ⟨r, e, k1, k2⟩ := h3 i _ hc
 exact ⟨r, by rw [h1.cell hc, e], k1, k2⟩
theorem Pk.free {w : World} {b : Nat} {X : List Nat} (h : Pk w b X) (i : Nat) : w.frozen? ⟨b, i, none⟩ = false := by
 obtain ⟨cs, h1, _⟩ := h.out; exact h1.free i
theorem Pk.set {w : World} {b : Nat} {X : List Nat} (h : Pk w b X) (i : Nat) {r x : Nat} (hr : r < 2 * sgnW) (hx : cn r = x) : Pk (w.setCell ⟨b, i, none⟩ (.float .f64 r)) b (X.set i x) := by
 obtain ⟨cs, h1, h2, h3⟩ := h.out
 refine ⟨cs.set i (.float .f64 r), h1.set i _, by rw [List.length_set, List.length_set, h2], fun j v hj => ?_⟩
 rw [nthN_set]
 rw [List.getElem?_set] at hj
 by_cases e : i = j
 ·subst e
  by_cases hi : i < X.length
  ·rw [if_pos rfl, if_pos (by omega)] at hj
   cases hj
   rw [if_pos ⟨rfl, hi⟩]
   exact ⟨r, rfl, hr, hx⟩
  ·rw [if_pos rfl, if_neg (by omega)] at hj; cases hj
 ·rw [if_neg e] at hj
  rw [if_neg (fun q => e q.1)]
  exact h3 j v hj
theorem Pk.zero {w : World} {b n : Nat} (h : Blk w b 145 (List.replicate n (.float .f64 0))) : Pk w b (List.replicate n 0) :=
 ⟨_, h, by simp, fun j v hv => by
  rw [List.getElem?_replicate] at hv
  split at hv
  ·cases hv
   exact ⟨0, rfl, by decide, by simp [nthN, List.getD_eq_getElem?_getD, *, cn_zero]⟩
  ·cases hv⟩
theorem made2 (m : Nat) : madeCells #[.float .f64 0, .float .f64 0] (m * 2) = (List.replicate (m * 2) (Value.float .f64 0)).toArray := by
 apply Array.ext (by simp [size_madeCells])
 intro i h1 h2
 simp only [madeCells, Array.getElem_map, Array.getElem_range, List.getElem_toArray, List.getElem_replicate]
 rcases Nat.mod_two_eq_zero_or_one i with e | e <;> simp [e]
theorem wpList_mk2 {P : Program} (w : World) {ops : Array Oper} {rest : List Oper} {o : Oper} {a : Act} {Q : Exit → Act → World → Prop} (hP : P = Tryz.prog)
  (hg : o.guard = none) (l c : Operand) (hop : o.op = Op.makeSlice 143 l c)
  (n : Nat) (hl : a.eval l = .int .i64 (n : Int)) (hc : a.eval c = .int .i64 (n : Int)) (hm : n ≤ 100000)
  (hK : ∀ w', Blk w' w.heap.size 145 (List.replicate (n * 2) (.float .f64 0)) → Bel w w' → w'.heap.size = w.heap.size + 1 → wpList P ops Q rest (a.put o.dst (.slice (some ⟨w.heap.size, 0, none⟩) n n)) w') :
  wpList P ops Q (o :: rest) a w := by
 subst hP
 refine wpList_plain hg fun K hK' => ?_
 obtain ⟨i, hi, hzz⟩ := Option.map_eq_some_iff.1 infoP
 simp only [Prod.mk.injEq] at hzz
 obtain ⟨hz, hs, hb⟩ := hzz
 have hrun := run_make (P := Tryz.prog) w 143 145 i _ Tryz.underlying143 hi hz .i64 .i64 n n (by omega) (Int.le_refl _) (by rw [hb]; omega) (by omega)
 rw [hs] at hrun
 simp only [Int.toNat_natCast] at hrun
 rw [show (Value.agg #[.float .f64 0, .float .f64 0]).cells = #[.float .f64 0, .float .f64 0] from by kernel_rfl, made2] at hrun
 unfold Oper.wp
 simp [execOp, hop, hl, hc, hrun, Result.andThen]
 exact hK' _ _ (hK _ (Blk.new _ _ _) ((Bel.refl w).alloc _) (by simp))
def two (f : Nat → Nat × Nat) (j : Nat) : Nat := if j % 2 = 0 then (f (j / 2)).1 else (f (j / 2)).2
theorem dRowP {m bq bmc bm : Nat} {mi : Int} (W0 : World) (f : Nat → Nat × Nat) (hmi : mi = (m : Int)) (hm : m ≤ 100000) (M0 : Mp W0 bm 0)
  (hmade : ∀ k, k < m → ∀ w n, Gr bm W0 w → Mp w bm n → n < 1000000 → Calls Tryz.prog 127 #[.int .i64 (k : Int), .pointer (some ⟨bq, 0, none⟩), .pointer (some ⟨bmc, 0, none⟩)] w (MakesC w bm (n + 1) (f k))) :
  Calls Tryz.prog 126 #[.int .i64 mi, .func (.func 127) #[] #[.pointer (some ⟨bq, 0, none⟩), .pointer (some ⟨bmc, 0, none⟩)]] W0
   fun e w' => ∃ b, e = .returned (.slice (some ⟨b, 0, none⟩) m m) ∧ Pk w' b ((List.range (m * 2)).map (two f)) ∧ W0.heap.size ≤ b ∧ Mp w' bm m ∧ Gr bm W0 w' := by
 subst hmi
 have MA := Ho.mk hmade
 have M1 := Ho.mk M0
 have hbm := M0.lt
 clear hmade M0
 go_enter Tryz.func126, Tryz.ntmps126
 go_wp2_with (at_make; refine wpList_mk2 _ rfl rfl _ _ rfl m rfl rfl hm ?_; intro w1 hk1 hl1 hs1)
 obtain ⟨bo, hbo⟩ : ∃ bo, bo = W0.heap.size := ⟨_, rfl⟩
 rw [← hbo] at hk1 hs1 hbm ⊢
 have HK1 := Ho.mk (Pk.zero hk1)
 have HL1 := Ho.mk hl1
 have HBO := Ho.mk hbo
 clear hk1 hl1 hs1 hbo
 go_loopw [11] (fun v wr => ∃ (i : Nat), i ≤ m ∧ v = .int .i64 i ∧ Ho (Pk wr bo (upRow (two f) (m * 2) (i * 2))) ∧ Ho (Mp wr bm i) ∧ Ho (Gr bm W0 wr)) (fun v _ => m - (intOf v).toNat)
 case atStart => exact ⟨0, Nat.zero_le _, rfl, ⟨by rw [Nat.zero_mul, upRow_zero]; exact HK1.out⟩, ⟨M1.out.bel HL1.out⟩, ⟨HL1.out.gr bm⟩⟩
 case round =>
  obtain ⟨i, hi, rfl, FK, MP, HW⟩ := hrel
  rcases Nat.lt_or_ge i m with hlt | hge
  ·have hl2 : i * 2 < (upRow (two f) (m * 2) (i * 2)).length := by rw [upRow_len]; omega
   have hl3 : i * 2 + 1 < (upRow (two f) (m * 2) (i * 2)).length := by rw [upRow_len]; omega
   have hne : ¬ bo = bm := by omega
   --@@
   go_wp2_with (first | (go_at_call 127; (with_reducible refine (MA.out i hlt _ i HW.out MP.out (by omega)).mono ?_); rintro e w5 ⟨r, s, rfl, r1, s1, r2, s2, m5, g5⟩; have FB := Ho.mk (FK.out.gr g5 hne); obtain ⟨r0, y0, _, _⟩ := FB.out.at_ hl2; have y1 := FB.out.free (i * 2); obtain ⟨s0, z0, _, _⟩ := FB.out.at_ hl3; have z1 := FB.out.free (i * 2 + 1)) | fail)
   go_roundw
   case rel =>
    have hk := (FB.out.set (i * 2) r1 (r2.trans (show (f i).1 = two f (i * 2) by simp [two]))).set (i * 2 + 1) s1 (s2.trans (show (f i).2 = two f (i * 2 + 1) by simp [two]; rw [show (i * 2 + 1) / 2 = i from by omega]))
    rw [upRow_set _ _ _ (by omega), upRow_set _ _ _ (by omega)] at hk
    exact ⟨i + 1, by omega, by simp, ⟨by rw [show (i + 1) * 2 = i * 2 + 1 + 1 from by omega]; exact hk⟩, ⟨Mp.far (Mp.far m5 (by dsimp only; omega) _) (by dsimp only; omega) _⟩, ⟨((HW.out.trans g5).setNew (by have := HBO.out; dsimp only; omega) _).setNew (by have := HBO.out; dsimp only; omega) _⟩⟩
   case measure => simp [intOf]; omega
  ·obtain rfl : i = m := by omega
   rw [upRow_all] at FK
   go_wp2
   go_ret
   exact ⟨bo, rfl, FK.out, by have := HBO.out; omega, MP.out, HW.out⟩
end S5
namespace S6
open Ieee Go Go.RowKit Go.Proofs Go.Proofs.YtnbdoidccacdnaaGreatDoor Ow Pl Dp Dt Gp F1 I0 T1 U0 U1 W0 S1 S2 S3 S4 S5
attribute [local go_sem ↓] Go.wp_at_zero Go.wp_at_succ
@[go_sem] theorem run_makeMapS {P : Program} (t : TypeId) (w : World) : (Instr.makeMap t none).run P w = .ok (.map (some w.heap.size)) (w.alloc (.map #[] 0)) := rfl
theorem resV {fn : Func} {p : Tmp} {tmps : Array Value} {w : World} {b : Nat} {v0 v1 : Value} (hf : fn.results = #[.cell p 24]) (hp : tmps.getD p undef = .pointer (some ⟨b, 0, none⟩)) (h : Blk w b 24 [v0, v1]) :
  (results fn tmps).run Tryz.prog w = .ok (.agg #[v0, v1]) w := by
 have y0 := h.cell (i := 0) rfl
 have y1 := h.cell (i := 1) rfl
 have hp2 := hp
 rw [Array.getD_eq_getD_getElem?] at hp2
 simp [results, hf, hp2, go_sem, y0, y1]
theorem nth_two (f : Nat → Nat × Nat) {m k : Nat} (h : k < m) : nthN ((List.range (m * 2)).map (two f)) (k * 2) = (f k).1 ∧ nthN ((List.range (m * 2)).map (two f)) (k * 2 + 1) = (f k).2 := by
 constructor
 ·rw [nthN_lt (by simp; omega)]; simp [two]
 ·rw [nthN_lt (by simp; omega)]; simp [two]; rw [show (k * 2 + 1) / 2 = k from by omega]
theorem dTab2 {k m b bl : Nat} {X : List Nat} (w : World) (hk : k < m) (hm : m ≤ 100000) (KL : Blk w bl 143 [.slice (some ⟨b, 0, none⟩) m m]) (PK : Pk w b X) (hX : X.length = m * 2) :
  Calls Tryz.prog 130 #[.int .i64 (k : Int), .pointer (some ⟨bl, 0, none⟩)] w (TellsC w (nthN X (k * 2))) := by
 obtain ⟨r, y1, r1, r2⟩ := PK.at_ (i := k * 2) (by omega)
 have R1 := Ho.mk r1
 have R2 := Ho.mk r2
 have y0 := KL.cell (i := 0) rfl
 clear KL PK r1 r2
 go_enter Tryz.func130, Tryz.ntmps130
 go_wp2
 go_ret
 exact ⟨r, rfl, R1.out, R2.out, Bel.refl _⟩
theorem dTab3 {k m b bl : Nat} {X : List Nat} (w : World) (hk : k < m) (hm : m ≤ 100000) (KL : Blk w bl 143 [.slice (some ⟨b, 0, none⟩) m m]) (PK : Pk w b X) (hX : X.length = m * 2) :
  Calls Tryz.prog 131 #[.int .i64 (k : Int), .pointer (some ⟨bl, 0, none⟩)] w (TellsC w (nthN X (k * 2 + 1))) := by
 obtain ⟨r, y1, r1, r2⟩ := PK.at_ (i := k * 2 + 1) (by omega)
 have R1 := Ho.mk r1
 have R2 := Ho.mk r2
 have y0 := KL.cell (i := 0) rfl
 clear KL PK r1 r2
 go_enter Tryz.func131, Tryz.ntmps131
 go_wp2
 go_ret
 exact ⟨r, rfl, R1.out, R2.out, Bel.refl _⟩
theorem dTab1 {q k n bq bmc bm : Nat} {qi : Int} (w : World) (T : Tab w) (KQ : Blk w bq 3 [.int .i64 qi]) (KM : Blk w bmc 142 [.map (some bm)]) (M0 : Mp w bm n) (hn : n < 1000000) (hq : (q : Int) = qi) (hq9 : q ≤ 9) (hb2 : ¬ 2 = bm) :
  Calls Tryz.prog 127 #[.int .i64 (k : Int), .pointer (some ⟨bq, 0, none⟩), .pointer (some ⟨bmc, 0, none⟩)] w (MakesC w bm (n + 1) (tabW q k)) := by
 have OF := Ho.mk (fun W T M => dTOf (k := (k : Int)) (s := splitT k q) (n := n) (bm := bm) W T M hb2 hn rfl hq hq9 rfl)
 have TT := Ho.mk T
 have M1 := Ho.mk M0
 have hbm := M0.lt
 have KQ1 := Ho.mk (KQ.old (.cells #[.float .f64 0, .float .f64 0] 145))
 have KM1 := Ho.mk (KM.old (.cells #[.float .f64 0, .float .f64 0] 145))
 have KR := Ho.mk (Blk.new w [.float .f64 0, .float .f64 0] 145)
 have g0 := Ho.mk ((Bel.refl w).alloc (.cells #[.float .f64 0, .float .f64 0] 145))
 clear T M0 KQ KM
 go_enter Tryz.func127, Tryz.ntmps127
 have y0 := KQ1.out.cell (i := 0) rfl
 have y1 := KM1.out.cell (i := 0) rfl
 go_wp2_with fail
 have hS : (w.alloc (.cells #[.float .f64 0, .float .f64 0] 145)).heap.size = w.heap.size + 1 := by simp only [World.size_alloc]
 generalize w.alloc (.cells #[.float .f64 0, .float .f64 0] 145) = W1 at *
 (with_reducible refine (OF.out _ (TT.out.bel g0.out) (M1.out.bel g0.out)).mono ?_); rintro e w5 ⟨r, s, rfl, r1, s1, r2, s2, m5, g5⟩
 have KRb := Ho.mk (g5.blk KR.out (by omega))
 have x0 := KRb.out.cell (i := 0) rfl
 have v0 := KRb.out.free 0
 have x1 := KRb.out.cell (i := 1) rfl
 have v1 := KRb.out.free 1
 have GG := Ho.mk ((g0.out.gr bm).trans g5)
 have M5 := Ho.mk m5
 have HH := Ho.mk (And.intro r1 (And.intro s1 (And.intro r2 s2)))
 clear r1 s1 r2 s2 m5 g5 y0 y1
 go_wp2
 exact bodyPost_ret (res2f (fn := Tryz.f127) rfl rfl ((KRb.out.set 0 (.float .f64 r)).set 1 (.float .f64 s))) rfl ⟨r, s, rfl, HH.out.1, HH.out.2.1, HH.out.2.2.1, HH.out.2.2.2, (Mp.far (Mp.far M5.out (p := ⟨w.heap.size, 0, none⟩) (by dsimp only; omega) (.float .f64 r)) (p := ⟨w.heap.size, 1, none⟩) (by dsimp only; omega) (.float .f64 s)), ((GG.out.setNew (p := ⟨w.heap.size, 0, none⟩) (by dsimp only; omega) (.float .f64 r)).setNew (p := ⟨w.heap.size, 1, none⟩) (by dsimp only; omega) (.float .f64 s))⟩
theorem dTable {q m : Nat} {qi mi : Int} (W0 : World) (T : Tab W0) (hq : (q : Int) = qi) (hq9 : q ≤ 9) (hmi : mi = (m : Int)) (hm : m ≤ 100000) :
  Calls Tryz.prog 83 #[.int .i64 qi, .int .i64 mi] W0
   fun e w' => ∃ b c, e = .returned (.agg #[.slice (some ⟨b, 0, none⟩) m m, .slice (some ⟨c, 0, none⟩) m m]) ∧ Fk w' b ((List.range m).map fun k => (tabW q k).1) ∧ Fk w' c ((List.range m).map fun k => (tabW q k).2) ∧ W0.heap.size ≤ b ∧ b < c ∧ Bel W0 w' := by
 subst hmi
 have T1 := Ho.mk (fun (k n bq bmc bm : Nat) w T KQ KM M0 hn hb2 => dTab1 (q := q) (k := k) (n := n) (bq := bq) (bmc := bmc) (bm := bm) (qi := qi) w T KQ KM M0 hn hq hq9 hb2)
 have TT := Ho.mk T
 have h2 := I4.Tab.lt T
 clear T hq
 go_enter Tryz.func83, Tryz.ntmps83
 go_upto_region 2 with fail
 have KQ := Ho.mk ((((Blk.new W0 [.int .i64 qi] 3).old (.cells #[.slice none 0 0, .slice none 0 0] 24)).old (.map #[] 0)).old (.cells #[.map (some (W0.heap.size + 1 + 1))] 142))
 have KV := Ho.mk (((Blk.new (W0.alloc (.cells #[.int .i64 qi] 3)) [.slice none 0 0, .slice none 0 0] 24).old (.map #[] 0)).old (.cells #[.map (some (W0.heap.size + 1 + 1))] 142))
 have KM := Ho.mk (Blk.new (((W0.alloc (.cells #[.int .i64 qi] 3)).alloc (.cells #[.slice none 0 0, .slice none 0 0] 24)).alloc (.map #[] 0)) [.map (some (W0.heap.size + 1 + 1))] 142)
 have M0 := Ho.mk ((Mp.made ((W0.alloc (.cells #[.int .i64 qi] 3)).alloc (.cells #[.slice none 0 0, .slice none 0 0] 24))).bel ((Bel.refl _).alloc (.cells #[.map (some (W0.heap.size + 1 + 1))] 142)))
 have g0 := Ho.mk (((((Bel.refl W0).alloc (.cells #[.int .i64 qi] 3)).alloc (.cells #[.slice none 0 0, .slice none 0 0] 24)).alloc (.map #[] 0)).alloc (.cells #[.map (some (W0.heap.size + 1 + 1))] 142))
 have hS : ((((W0.alloc (.cells #[.int .i64 qi] 3)).alloc (.cells #[.slice none 0 0, .slice none 0 0] 24)).alloc (.map #[] 0)).alloc (.cells #[.map (some (W0.heap.size + 1 + 1))] 142)).heap.size = W0.heap.size + 1 + 1 + 1 + 1 := by simp only [World.size_alloc]
 simp only [World.size_alloc] at KV KM M0
 generalize ((((W0.alloc (.cells #[.int .i64 qi] 3)).alloc (.cells #[.slice none 0 0, .slice none 0 0] 24)).alloc (.map #[] 0)).alloc (.cells #[.map (some (W0.heap.size + 1 + 1))] 142)) = W at *
 have RP := Ho.mk (fun W' (g : Bel W W') => dRowP (m := m) (bq := W0.heap.size) (bmc := W0.heap.size + 1 + 1 + 1) (bm := W0.heap.size + 1 + 1) W' (fun k => tabW q k) rfl hm (M0.out.bel g)
  (fun k hk w n gw mw hn => T1.out k n _ _ _ w (tab_gr (TT.out.bel (g0.out.trans g)) gw (by omega)) (gw.blk (KQ.out.bel g) (by omega)) (gw.blk (KM.out.bel g) (by omega)) mw hn (by omega)))
 go_wp2_with fail
 (with_reducible refine (RP.out _ (Bel.refl _)).mono ?_); rintro e w5 ⟨b, rfl, pk, lb, mp, gg⟩
 have KL := Ho.mk (Blk.new w5 [.slice (some ⟨b, 0, none⟩) m m] 143)
 have PK := Ho.mk (pk.bel ((Bel.refl w5).alloc (.cells #[.slice (some ⟨b, 0, none⟩) m m] 143)))
 have KV5 := Ho.mk ((gg.blk KV.out (by omega)).old (.cells #[.slice (some ⟨b, 0, none⟩) m m] 143))
 have BO := Ho.mk (show Bel W0 (w5.alloc (.cells #[.slice (some ⟨b, 0, none⟩) m m] 143)) from (gg.bel g0.out (by omega)).alloc _)
 have hs5 := gg.size
 clear pk mp gg KV KQ KM M0 RP T1 TT
 have RF := Ho.mk (fun W' (g : Bel (w5.alloc (.cells #[.slice (some ⟨b, 0, none⟩) m m] 143)) W') => dRowF (m := m) (fn := 130) (bl := w5.heap.size) W' (fun k => (tabW q k).1) rfl hm (.inl rfl)
  (fun k hk w gw => by have h := dTab2 w hk hm (KL.out.bel (g.trans gw)) (PK.out.bel (g.trans gw)) (by simp); rw [(nth_two (fun k => tabW q k) hk).1] at h; exact h))
 have RG := Ho.mk (fun W' (g : Bel (w5.alloc (.cells #[.slice (some ⟨b, 0, none⟩) m m] 143)) W') => dRowF (m := m) (fn := 131) (bl := w5.heap.size) W' (fun k => (tabW q k).2) rfl hm (.inr rfl)
  (fun k hk w gw => by have h := dTab3 w hk hm (KL.out.bel (g.trans gw)) (PK.out.bel (g.trans gw)) (by simp); rw [(nth_two (fun k => tabW q k) hk).2] at h; exact h))
 go_wp2_with fail
 (with_reducible refine (RF.out _ (Bel.refl _)).mono ?_); rintro e w6 ⟨b6, rfl, f6, l6, g6⟩
 go_wp2_with fail
 (with_reducible refine (RG.out _ g6).mono ?_); rintro e w7 ⟨b7, rfl, f7, l7, g7⟩
 have hs6 := f6.lt
 rw [World.size_alloc] at l6
 have hs7 := g7.size
 have KV7 := Ho.mk ((KV5.out.bel g6).bel g7)
 have F6 := Ho.mk (f6.bel g7)
 have F7 := Ho.mk f7
 have BO7 := Ho.mk ((BO.out.trans g6).trans g7)
 have y0 := KV7.out.cell (i := 0) rfl
 have y1 := KV7.out.cell (i := 1) rfl
 have z0 := KV7.out.free 0
 have z1 := KV7.out.free 1
 clear RF RG KL PK KV5 BO f6 f7 g6 g7
 go_wp2
 exact bodyPost_ret (resV (fn := Tryz.f83) rfl rfl ((KV7.out.set 0 (.slice (some ⟨b6, 0, none⟩) m m)).set 1 (.slice (some ⟨b7, 0, none⟩) m m))) rfl
  ⟨b6, b7, rfl, (F6.out.far (p := ⟨W0.heap.size + 1, 0, none⟩) (by dsimp only; omega) _).far (p := ⟨W0.heap.size + 1, 1, none⟩) (by dsimp only; omega) _, (F7.out.far (p := ⟨W0.heap.size + 1, 0, none⟩) (by dsimp only; omega) _).far (p := ⟨W0.heap.size + 1, 1, none⟩) (by dsimp only; omega) _, by omega, by omega,
   ⟨(BO7.out.out.setCell (p := ⟨W0.heap.size + 1, 0, none⟩) (by dsimp only; omega) _).setCell (p := ⟨W0.heap.size + 1, 1, none⟩) (by dsimp only; omega) _⟩⟩
end S6
namespace P0
open Ieee Go Go.RowKit Go.Proofs Go.Proofs.YtnbdoidccacdnaaGreatDoor Ow Pl Gp F1 I0 W0 S3 S4
attribute [local go_sem ↓] Go.wp_at_zero Go.wp_at_succ
theorem dOAdd {a b : Nat} (w : World) (ha : a < 2 * sgnW) (hb : b < 2 * sgnW) :
  Calls Tryz.prog 154 #[.float .f64 a, .float .f64 b] w (TellsC w (fadd (cn a) (cn b))) := by
 obtain ⟨r, w', hr, hw, r1, r2⟩ := run_fadd (P := Tryz.prog) 50 ha hb w
 have HB := Ho.mk (drew_bel w hw)
 have R := Ho.mk (And.intro r1 r2)
 clear ha hb hw r1 r2
 go_enter Tryz.func154, Tryz.ntmps154
 go_wp2_with (simp only [hr])
 go_ret
 exact ⟨r, rfl, R.out.1, R.out.2, HB.out⟩
theorem dOSub {a b : Nat} (w : World) (ha : a < 2 * sgnW) (hb : b < 2 * sgnW) :
  Calls Tryz.prog 155 #[.float .f64 a, .float .f64 b] w (TellsC w (fsub (cn a) (cn b))) := by
 obtain ⟨r, w', hr, hw, r1, r2⟩ := run_fsub (P := Tryz.prog) 50 ha hb w
 have HB := Ho.mk (drew_bel w hw)
 have R := Ho.mk (And.intro r1 r2)
 clear ha hb hw r1 r2
 go_enter Tryz.func155, Tryz.ntmps155
 go_wp2_with (simp only [hr])
 go_ret
 exact ⟨r, rfl, R.out.1, R.out.2, HB.out⟩
theorem dOMul {a b : Nat} (w : World) (ha : a < 2 * sgnW) (hb : b < 2 * sgnW) :
  Calls Tryz.prog 108 #[.float .f64 a, .float .f64 b] w (TellsC w (fmul (cn a) (cn b))) := by
 obtain ⟨r, w', hr, hw, r1, r2⟩ := run_fmul (P := Tryz.prog) 50 ha hb w
 have HB := Ho.mk (drew_bel w hw)
 have R := Ho.mk (And.intro r1 r2)
 clear ha hb hw r1 r2
 go_enter Tryz.func108, Tryz.ntmps108
 go_wp2_with (simp only [hr])
 go_ret
 exact ⟨r, rfl, R.out.1, R.out.2, HB.out⟩
def Tells2 (W0 : World) (p : Nat × Nat) (e : Ending) (w' : World) : Prop := ∃ r s, e = .returned (.tuple #[.float .f64 r, .float .f64 s]) ∧ (r < 2 * sgnW ∧ s < 2 * sgnW) ∧ (cn r = p.1 ∧ cn s = p.2) ∧ Bel W0 w'
def TellsP (W0 : World) (p : Nat × Nat) (e : Ending) (w' : World) : Prop := ∃ r s, e = .returned (.agg #[.float .f64 r, .float .f64 s]) ∧ (r < 2 * sgnW ∧ s < 2 * sgnW) ∧ (cn r = p.1 ∧ cn s = p.2) ∧ Bel W0 w'
theorem half_lt : (4602678819172646912 : Nat) < 2 * sgnW := by decide
theorem dHalf {a b : Nat} (w : World) (ha : a < 2 * sgnW) (hb : b < 2 * sgnW) :
  Calls Tryz.prog 85 #[.float .f64 a, .float .f64 b] w (Tells2 w (fmul (cn a) (cn 4602678819172646912), fmul (cn b) (cn 4602678819172646912))) := by
 have M1 := Ho.mk (fun w => dOMul w ha half_lt)
 have M2 := Ho.mk (fun w => dOMul w hb half_lt)
 clear ha hb
 go_enter Tryz.func85, Tryz.ntmps85
 go_wp2_with fail
 (with_reducible refine (M1.out _).mono ?_); rintro e w1 ⟨r, rfl, r1, r2, b1⟩
 go_wp2_with fail
 (with_reducible refine (M2.out _).mono ?_); rintro e w2 ⟨s, rfl, s1, s2, b2⟩
 go_wp2
 go_ret2
 exact ⟨r, s, rfl, ⟨r1, s1⟩, ⟨r2, s2⟩, b1.trans b2⟩
theorem resP {fn : Func} {p : Tmp} {tmps : Array Value} {w : World} {b : Nat} {v0 v1 : Value} (hf : fn.results = #[.cell p 141]) (hp : tmps.getD p undef = .pointer (some ⟨b, 0, none⟩)) (h : Blk w b 141 [v0, v1]) :
  (results fn tmps).run Tryz.prog w = .ok (.agg #[v0, v1]) w := by
 have y0 := h.cell (i := 0) rfl
 have y1 := h.cell (i := 1) rfl
 have hp2 := hp
 rw [Array.getD_eq_getD_getElem?] at hp2
 simp [results, hf, hp2, go_sem, y0, y1]
theorem dEach {a b c d fn : Nat} {op : Nat → Nat → Nat} (w : World) (ha : a < 2 * sgnW) (hb : b < 2 * sgnW) (hc : c < 2 * sgnW) (hd : d < 2 * sgnW) (hfn : (fn = 154 ∧ op = fadd) ∨ (fn = 155 ∧ op = fsub)) :
  Calls Tryz.prog 153 #[.agg #[.float .f64 a, .float .f64 b], .agg #[.float .f64 c, .float .f64 d], .func (.func fn) #[] #[]] w (TellsP w (op (cn a) (cn c), op (cn b) (cn d))) := by
 have F1 : Ho (∀ w, Calls Tryz.prog fn #[.float .f64 a, .float .f64 c] w (TellsC w (op (cn a) (cn c)))) := ⟨fun w => by rcases hfn with ⟨rfl, rfl⟩ | ⟨rfl, rfl⟩ <;> first | exact dOAdd w ha hc | exact dOSub w ha hc⟩
 have F2 : Ho (∀ w, Calls Tryz.prog fn #[.float .f64 b, .float .f64 d] w (TellsC w (op (cn b) (cn d)))) := ⟨fun w => by rcases hfn with ⟨rfl, rfl⟩ | ⟨rfl, rfl⟩ <;> first | exact dOAdd w hb hd | exact dOSub w hb hd⟩
 clear ha hb hc hd
 rcases hfn with ⟨rfl, _⟩ | ⟨rfl, _⟩
 all_goals
  go_enter Tryz.func153, Tryz.ntmps153
  go_wp2_with fail
  have KP := Ho.mk (((Blk.new w [.float .f64 a, .float .f64 b] 141).old (.cells #[.float .f64 c, .float .f64 d] 141)).old (.cells #[.float .f64 0, .float .f64 0] 141))
  have KQ := Ho.mk ((Blk.new (w.alloc (.cells #[.float .f64 a, .float .f64 b] 141)) [.float .f64 c, .float .f64 d] 141).old (.cells #[.float .f64 0, .float .f64 0] 141))
  rw [World.size_alloc] at KQ
  have KR := Ho.mk (Blk.new ((w.alloc (.cells #[.float .f64 a, .float .f64 b] 141)).alloc (.cells #[.float .f64 c, .float .f64 d] 141)) [.float .f64 0, .float .f64 0] 141)
  rw [World.size_alloc, World.size_alloc] at KR
  have g0 := Ho.mk ((((Bel.refl w).alloc (.cells #[.float .f64 a, .float .f64 b] 141)).alloc (.cells #[.float .f64 c, .float .f64 d] 141)).alloc (.cells #[.float .f64 0, .float .f64 0] 141))
  have hS : (((w.alloc (.cells #[.float .f64 a, .float .f64 b] 141)).alloc (.cells #[.float .f64 c, .float .f64 d] 141)).alloc (.cells #[.float .f64 0, .float .f64 0] 141)).heap.size = w.heap.size + 1 + 1 + 1 := by simp only [World.size_alloc]
  generalize (((w.alloc (.cells #[.float .f64 a, .float .f64 b] 141)).alloc (.cells #[.float .f64 c, .float .f64 d] 141)).alloc (.cells #[.float .f64 0, .float .f64 0] 141)) = W at *
  have y0 := KP.out.cell (i := 0) rfl
  have y1 := KP.out.cell (i := 1) rfl
  have y2 := KQ.out.cell (i := 0) rfl
  have y3 := KQ.out.cell (i := 1) rfl
  refine I7.wp_region_late 13 (S := fun w' => Bel W w') (by kernel_rfl) (Bel.refl _).drew (fun hHeld => ?_)
  (try dsimp only at hHeld)
  refine I7.kt (i := 0) hHeld ?_
  refine I7.kt (i := 1) hHeld ?_
  refine I7.kl (i := 2) (v := ?_) hHeld (fun w hSw => ?_) ?_
  rotate_left
  ·(have z0 := hSw.cell y0; go_simp; try (with_reducible rfl))
  refine I7.kt (i := 3) hHeld ?_
  refine I7.kl (i := 4) (v := ?_) hHeld (fun w hSw => ?_) ?_
  rotate_left
  ·(have z0 := hSw.cell y2; go_simp; try (with_reducible rfl))
  refine I7.kt (i := 6) hHeld ?_
  refine I7.kt (i := 7) hHeld ?_
  refine I7.kl (i := 8) (v := ?_) hHeld (fun w hSw => ?_) ?_
  rotate_left
  ·(have z0 := hSw.cell y1; go_simp; try (with_reducible rfl))
  refine I7.kt (i := 9) hHeld ?_
  refine I7.kl (i := 10) (v := ?_) hHeld (fun w hSw => ?_) ?_
  rotate_left
  ·(have z0 := hSw.cell y3; go_simp; try (with_reducible rfl))
  try simp only [Act.put, List.setIfInBounds_toArray, List.set_cons_zero, List.set_cons_succ]
  refine I7.kc (i := 5) (fun K hK => ?_)
  go_simp
  (first | go_at_call 154 | go_at_call 155)
  (with_reducible refine (F1.out _).mono ?_); rintro e w5 ⟨r5, rfl, l5, c5, b5⟩
  try go_wp2_with fail
  refine hK.out _ _ (Bel.trans hHeld b5) (fun hHeld => ?_)
  clear hK K
  try simp only [Act.put, List.setIfInBounds_toArray, List.set_cons_zero, List.set_cons_succ]
  refine I7.kc (i := 11) (fun K hK => ?_)
  go_simp
  (first | go_at_call 154 | go_at_call 155)
  (with_reducible refine (F2.out _).mono ?_); rintro e w6 ⟨r6, rfl, l6, c6, b6⟩
  try go_wp2_with fail
  refine hK.out _ _ (Bel.trans hHeld b6) (fun hHeld => ?_)
  clear hK K
  refine I7.kt (i := 12) hHeld ?_
  have KR := Ho.mk (KR.out.bel hHeld)
  have g2 := Ho.mk (g0.out.trans hHeld)
  clear y0 y1 y2 y3 hHeld
  have y0 := KR.out.cell (i := 0) rfl
  have y1 := KR.out.cell (i := 1) rfl
  have z0 := KR.out.free 0
  have z1 := KR.out.free 1
  try simp only [Act.put, List.setIfInBounds_toArray, List.set_cons_zero, List.set_cons_succ]
  refine I7.ke (i := 13) (fun K hK => ?_)
  go_simp
  refine hK.out _ _ ?_
  clear hK K
  try simp only [Act.put, List.setIfInBounds_toArray, List.set_cons_zero, List.set_cons_succ]
  refine wpAny_done (by kernel_rfl) ?_ _
  go_wp2
  exact bodyPost_ret (resP (fn := Tryz.f153) rfl rfl ((KR.out.set 0 (.float .f64 r5)).set 1 (.float .f64 r6))) rfl ⟨r5, r6, rfl, ⟨l5, l6⟩, ⟨c5, c6⟩, ⟨(g2.out.out.setCell (p := ⟨w.heap.size + 1 + 1, 0, none⟩) (by dsimp only; omega) _).setCell (p := ⟨w.heap.size + 1 + 1, 1, none⟩) (by dsimp only; omega) _⟩⟩
theorem dPAdd {a b c d : Nat} (w : World) (ha : a < 2 * sgnW) (hb : b < 2 * sgnW) (hc : c < 2 * sgnW) (hd : d < 2 * sgnW) :
  Calls Tryz.prog 124 #[.agg #[.float .f64 a, .float .f64 b], .agg #[.float .f64 c, .float .f64 d]] w (TellsP w (fadd (cn a) (cn c), fadd (cn b) (cn d))) := by
 have EA := Ho.mk (fun w => dEach (fn := 154) (op := fadd) w ha hb hc hd (.inl ⟨rfl, rfl⟩))
 clear ha hb hc hd
 go_enter Tryz.func124, Tryz.ntmps124
 have hu1 : ∀ h, h ≠ h + 1 := fun h => by omega
 have KP := Ho.mk (((Blk.new w [.float .f64 a, .float .f64 b] 141).old (.cells #[.float .f64 c, .float .f64 d] 141)).old (.cells #[.float .f64 0, .float .f64 0] 141))
 have KQ := Ho.mk ((Blk.new (w.alloc (.cells #[.float .f64 a, .float .f64 b] 141)) [.float .f64 c, .float .f64 d] 141).old (.cells #[.float .f64 0, .float .f64 0] 141))
 rw [World.size_alloc] at KQ
 have KR := Ho.mk (Blk.new ((w.alloc (.cells #[.float .f64 a, .float .f64 b] 141)).alloc (.cells #[.float .f64 c, .float .f64 d] 141)) [.float .f64 0, .float .f64 0] 141)
 rw [World.size_alloc, World.size_alloc] at KR
 have g0 := Ho.mk ((((Bel.refl w).alloc (.cells #[.float .f64 a, .float .f64 b] 141)).alloc (.cells #[.float .f64 c, .float .f64 d] 141)).alloc (.cells #[.float .f64 0, .float .f64 0] 141))
 have hS : (((w.alloc (.cells #[.float .f64 a, .float .f64 b] 141)).alloc (.cells #[.float .f64 c, .float .f64 d] 141)).alloc (.cells #[.float .f64 0, .float .f64 0] 141)).heap.size = w.heap.size + 1 + 1 + 1 := by simp only [World.size_alloc]
 go_upto_region 1 with fail
 generalize (((w.alloc (.cells #[.float .f64 a, .float .f64 b] 141)).alloc (.cells #[.float .f64 c, .float .f64 d] 141)).alloc (.cells #[.float .f64 0, .float .f64 0] 141)) = W at *
 have x0 := KP.out.cell (i := 0) rfl
 have x1 := KP.out.cell (i := 1) rfl
 have y0 := KQ.out.cell (i := 0) rfl
 have y1 := KQ.out.cell (i := 1) rfl
 go_wp2_with fail
 (with_reducible refine (EA.out _).mono ?_); rintro e w5 ⟨r, s, rfl, l5, c5, b5⟩
 have KR := Ho.mk (KR.out.bel b5)
 have g2 := Ho.mk (g0.out.trans b5)
 clear x0 x1 y0 y1 b5
 have y0 := KR.out.cell (i := 0) rfl
 have y1 := KR.out.cell (i := 1) rfl
 have z0 := KR.out.free 0
 have z1 := KR.out.free 1
 go_wp2
 exact bodyPost_ret (resP (fn := Tryz.f124) rfl rfl ((KR.out.set 0 (.float .f64 r)).set 1 (.float .f64 s))) rfl ⟨r, s, rfl, l5, c5, ⟨(g2.out.out.setCell (p := ⟨w.heap.size + 1 + 1, 0, none⟩) (by dsimp only; omega) _).setCell (p := ⟨w.heap.size + 1 + 1, 1, none⟩) (by dsimp only; omega) _⟩⟩
theorem dPSub {a b c d : Nat} (w : World) (ha : a < 2 * sgnW) (hb : b < 2 * sgnW) (hc : c < 2 * sgnW) (hd : d < 2 * sgnW) :
  Calls Tryz.prog 125 #[.agg #[.float .f64 a, .float .f64 b], .agg #[.float .f64 c, .float .f64 d]] w (TellsP w (fsub (cn a) (cn c), fsub (cn b) (cn d))) := by
 have EA := Ho.mk (fun w => dEach (fn := 155) (op := fsub) w ha hb hc hd (.inr ⟨rfl, rfl⟩))
 clear ha hb hc hd
 go_enter Tryz.func125, Tryz.ntmps125
 have hu1 : ∀ h, h ≠ h + 1 := fun h => by omega
 have KP := Ho.mk (((Blk.new w [.float .f64 a, .float .f64 b] 141).old (.cells #[.float .f64 c, .float .f64 d] 141)).old (.cells #[.float .f64 0, .float .f64 0] 141))
 have KQ := Ho.mk ((Blk.new (w.alloc (.cells #[.float .f64 a, .float .f64 b] 141)) [.float .f64 c, .float .f64 d] 141).old (.cells #[.float .f64 0, .float .f64 0] 141))
 rw [World.size_alloc] at KQ
 have KR := Ho.mk (Blk.new ((w.alloc (.cells #[.float .f64 a, .float .f64 b] 141)).alloc (.cells #[.float .f64 c, .float .f64 d] 141)) [.float .f64 0, .float .f64 0] 141)
 rw [World.size_alloc, World.size_alloc] at KR
 have g0 := Ho.mk ((((Bel.refl w).alloc (.cells #[.float .f64 a, .float .f64 b] 141)).alloc (.cells #[.float .f64 c, .float .f64 d] 141)).alloc (.cells #[.float .f64 0, .float .f64 0] 141))
 have hS : (((w.alloc (.cells #[.float .f64 a, .float .f64 b] 141)).alloc (.cells #[.float .f64 c, .float .f64 d] 141)).alloc (.cells #[.float .f64 0, .float .f64 0] 141)).heap.size = w.heap.size + 1 + 1 + 1 := by simp only [World.size_alloc]
 go_upto_region 1 with fail
 generalize (((w.alloc (.cells #[.float .f64 a, .float .f64 b] 141)).alloc (.cells #[.float .f64 c, .float .f64 d] 141)).alloc (.cells #[.float .f64 0, .float .f64 0] 141)) = W at *
 have x0 := KP.out.cell (i := 0) rfl
 have x1 := KP.out.cell (i := 1) rfl
 have y0 := KQ.out.cell (i := 0) rfl
 have y1 := KQ.out.cell (i := 1) rfl
 go_wp2_with fail
 (with_reducible refine (EA.out _).mono ?_); rintro e w5 ⟨r, s, rfl, l5, c5, b5⟩
 have KR := Ho.mk (KR.out.bel b5)
 have g2 := Ho.mk (g0.out.trans b5)
 clear x0 x1 y0 y1 b5
 have y0 := KR.out.cell (i := 0) rfl
 have y1 := KR.out.cell (i := 1) rfl
 have z0 := KR.out.free 0
 have z1 := KR.out.free 1
 go_wp2
 exact bodyPost_ret (resP (fn := Tryz.f125) rfl rfl ((KR.out.set 0 (.float .f64 r)).set 1 (.float .f64 s))) rfl ⟨r, s, rfl, l5, c5, ⟨(g2.out.out.setCell (p := ⟨w.heap.size + 1 + 1, 0, none⟩) (by dsimp only; omega) _).setCell (p := ⟨w.heap.size + 1 + 1, 1, none⟩) (by dsimp only; omega) _⟩⟩
end P0
end Go.Proofs.YtnbdoidccacdnaaGreatDoor
