/-
  Joined, of what this claim leans on: Y4, Po, Y1, Y5, Y6, Y7, Ph, Pj, Pk, Pq, Y8, Lv, Le, Pf, La, Lc, Ld, Lj.
-/
import Derived.Deep.AppendLies
import Derived.Deep.Slices
import Derived.ChangeSame
import Derived.Test.YtnbdoidccacdnaaGreatDoorJRfftOne6
set_option linter.unusedVariables false
set_option linter.unusedSimpArgs false
set_option maxRecDepth 100000
set_option maxHeartbeats 16000000
namespace Go.Proofs.YtnbdoidccacdnaaGreatDoor
namespace Y4
open Ieee Go Go.RowKit Go.Proofs Go.Proofs.YtnbdoidccacdnaaGreatDoor Ow Dt Gp I0 U0 W0 S4 S6 P0 M0 M1 M3 W4 W5 V2 P4 Y3 Yh
open Go.Proofs.YtnbdoidccacdnaaGreatDoor.V1 (NI St ni_same ni_loop St.refl St.of_bel blk_keep ni_blk put_st)
open Go.Proofs.YtnbdoidccacdnaaGreatDoor.C6 (leaveAny)
open Go.Proofs.YtnbdoidccacdnaaGreatDoor.Pg (In)
attribute [local go_sem ↓] Go.wp_at_zero Go.wp_at_succ
attribute [local go_sem] Oper.semAt_some
theorem dLogR {n : Nat} {fn : Nat} (hfn : fn = 77) (w : World) (h : n < 1100) (T : Tab w) : Calls Tryz.prog fn #[.int .i64 (n : Int)] w fun e w' => e = .returned (.int .i64 (logI n)) ∧ w = w' := by
 have TT := Ho.mk T
 clear T
 subst hfn
 obtain ⟨k, hk⟩ : ∃ k : Int, k = (n : Int) := ⟨_, rfl⟩
 by_cases h0 : n = 0
 ·subst h0
  have e : logI 0 = -1 := by decide
  rw [e]
  go_enter Tryz.func77, Tryz.ntmps77
  go_wp2
  go_ret
  exact ⟨rfl, rfl⟩
 ·obtain ⟨f1, f2⟩ := log_fact h h0
  have F2 := Ho.mk f2
  have hk0 : 0 < k := by omega
  have hk1 : k < 1100 := by omega
  by_cases hp : 2 ^ Nat.log2 n = n
  ·have hb : bits .and .i64 k (k - 1) = 0 := by rw [hk]; exact f1.2 hp
   have HE := Ho.mk (show logI n = if n ≤ 1024 then (Nat.log2 n : Int) else -1 by unfold logI; by_cases c : n ≤ 1024 <;> simp [h0, hp, c])
   have HT := Ho.mk (f2 hp)
   rw [HE.out, ← hk]
   have HK := Ho.mk hk
   clear f1 f2 hp h0 hk
   by_cases c : 1024 < k
   ·rw [if_neg (by have := HK.out; omega)]
    go_enter Tryz.func77, Tryz.ntmps77
    go_wp2
    go_ret
    exact ⟨rfl, rfl⟩
   ·rw [if_pos (by have := HK.out; omega)]
    go_enter Tryz.func77, Tryz.ntmps77
    go_wp2_with (go_at_call 120; (with_reducible refine (E1.tz_callsI _ _ (by omega) (by omega) TT.out).mono ?_); rintro e w' ⟨rfl, rfl⟩)
    go_ret
    refine ⟨?_, rfl⟩
    rw [show k.toNat = n by have := HK.out; omega, HT.out]; rfl
  ·have hb : ¬ bits .and .i64 k (k - 1) = 0 := by rw [hk]; exact fun e => hp (f1.1 e)
   have HE : logI n = -1 := by unfold logI; rw [if_neg (fun q => hp q.2.1)]
   rw [HE, ← hk]
   clear f1 f2 hp h0 hk HE F2
   go_enter Tryz.func77, Tryz.ntmps77
   go_wp2
   go_ret
   exact ⟨rfl, rfl⟩
theorem then_falseW {P : Program} {c : Code} {K : Act → World → Prop} {Q : Exit → Act → World → Prop} {a : Act} {w : World} (h : c.wp P (Exit.then K (fun _ _ _ => False)) a w) : c.wp P (Exit.then K Q) a w :=
 (wpIn_wide (n := 0)).1 (J3.then_false (wpIn_wide.2 h))
theorem Fz.at2 {w : World} {b : Nat} {X : List Nat} (K : Fz w b X) (i : Nat) (hi : i < X.length) : ∃ v, w.cell? ⟨b, i, none⟩ = some v := by obtain ⟨r, h, _⟩ := K.at_ hi; exact ⟨_, h⟩
theorem dPut {b n c k r s : Nat} {X : List Nat} (w : World) (K : Fk w b X) (hk : 2 * k + 1 < n) (hX : X.length = n) (hn : n ≤ 100000) (hr : r < 2 * sgnW) (hs : s < 2 * sgnW) :
  Calls Tryz.prog 80 #[.slice (some ⟨b, 0, none⟩) n c, .int .i64 (k : Int), .float .f64 r, .float .f64 s] w
   fun e w' => e = .returned (.tuple #[]) ∧ Fk w' b ((X.set (2 * k) (cn r)).set (2 * k + 1) (cn s)) ∧ Gr b w w' := by
 have K2 := K.set (2 * k) hr rfl
 have K3 := K2.set (2 * k + 1) hs rfl
 obtain ⟨_, y0⟩ := Fz.at2 K.fz (2 * k) (by omega)
 have x0 := K.free (2 * k)
 obtain ⟨_, y1⟩ := Fz.at2 K2.fz (2 * k + 1) (by rw [List.length_set]; omega)
 have x1 := K2.free (2 * k + 1)
 have G := Ho.mk (((Gr.refl b w).set (2 * k) (.float .f64 r)).set (2 * k + 1) (.float .f64 s))
 have K3 := Ho.mk K3
 have e1 : (2 * (k : Int)).toNat = 2 * k := by omega
 have e2 : (2 * (k : Int) + 1).toNat = 2 * k + 1 := by omega
 clear K K2
 go_enter Tryz.func80, Tryz.ntmps80
 go_wp2_with fail
 go_end0
 exact ⟨rfl, K3.out, G.out⟩
theorem hp_abides {W0 : World} {L : List Ent} {B : Nat} (hL : ∀ e ∈ L, e.b < B) (hB : W0.heap.size ≤ B) : V1.Abides (fun O W => Hp W0 W L ∧ B ≤ W.heap.size ∧ ∀ k ∈ O, B ≤ k ∧ k < W.heap.size) := by
 rintro O A O' C ⟨h, hb, ho⟩ hs h1 h2
 have sz := hs.size
 have same : ∀ k, k < B → C.heap[k]? = A.heap[k]? := fun k hk => (hs.block k (by omega)).elim id (fun q => by have := (ho k q.1).1; omega)
 exact ⟨⟨⟨⟨hs.os.trans h.bel.out.os, hs.tape.trans h.bel.out.tape, hs.output.trans h.bel.out.output, Nat.le_trans h.bel.size sz, fun k hk => (same k (by omega)).trans (h.bel.out.block k hk)⟩⟩, h.ge, h.nd, fun e he => (h.ok e he).same (same e.b (hL e he))⟩, by omega,
  fun k hk => (h2 k hk).elim (fun q => by have := ho k q; omega) (fun q => by omega)⟩
theorem ni_fk {w : World} {b : Nat} {X : List Nat} (h : Fk w b X) : NI w b := by
 obtain ⟨cs, h1, h2, h3⟩ := h.out
 refine ni_blk h1 ?_
 intro i z hz
 obtain ⟨r, e, _⟩ := h3 i _ hz
 cases e
theorem yd_gr {b B : Nat} {bs O : List Nat} {W W' : World} {X : List Nat} (g : Gr b W W') (h : Fk W b X) (hb : b ∈ bs) (hO : b ∉ O) : Yd bs O B W W' :=
 ⟨g.os, g.tape, g.output, g.size, fun k hk => by
  by_cases e : k = b
  ·subst e; exact .inr ⟨.inl (ni_fk h), hO, .inl hb⟩
  ·exact .inl (g.block k hk e)⟩
structure E4 where
 k : Nat
 a : Nat
 b : Nat
 c : Nat
 d : Nat
def encE (x : E4) : Array Value := #[.int .i64 (x.k : Int), .agg #[.float .f64 x.a, .float .f64 x.b, .float .f64 x.c, .float .f64 x.d]]
structure E4.Ok (X Y : List Nat) (m : Nat) (x : E4) : Prop where
 lt : (x.a < 2 * sgnW ∧ x.b < 2 * sgnW) ∧ (x.c < 2 * sgnW ∧ x.d < 2 * sgnW)
 cl : (cn x.a = nthN X x.k ∧ cn x.b = nthN Y x.k) ∧ (cn x.c = nthN X (m - x.k) ∧ cn x.d = nthN Y (m - x.k))
theorem cellS {ks : List Nat} {B : Nat} {w w' : World} {p : Addr} {v : Value} (h : ∀ k, k < B → k ∉ ks → w'.heap[k]? = w.heap[k]?) (hb : p.block < B) (hn : p.block ∉ ks) (hc : w.cell? p = some v) : w'.cell? p = some v := by
 unfold World.cell? at hc ⊢
 rw [h _ hb hn]; exact hc
def Ends (w : World) (no : List Nat) (lb : Array Value) (X Y : List Nat) (m : Nat) : Prop := ∀ (n l : Nat) (W : World) (ks : List Nat), 1 ≤ n → Bel w W → (∀ k ∈ ks, k ∉ no) →
 SeqB Tryz.prog n l 132 lb encE ks (m - 1) (fun pre x _ => x.k = pre.length + 1 ∧ x.Ok X Y m) (fun zs => zs.length = m - 1) (fun _ => True) W
theorem ends1 {m c c' : Nat} {X Y : List Nat} (w : World) {bz b b' : Nat} (KZ : Blk w bz 24 [.slice (some ⟨b, 0, none⟩) m c, .slice (some ⟨b', 0, none⟩) m c']) (FX : Fz w b X) (FY : Fz w b' Y) (hX : X.length = m) (hY : Y.length = m) (hm : 1 ≤ m) (hm2 : m ≤ 100000) :
  Ends w [bz, b, b'] #[.pointer (some ⟨bz, 0, none⟩)] X Y m := by
 intro n l W ks hn hW hks J Jx _ hJ hJx hY' h0
 have KZ := Ho.mk (KZ.bel hW)
 have FX := Ho.mk (FX.bel hW)
 have FY := Ho.mk (FY.bel hW)
 have n1 : bz ∉ ks := fun q => hks _ q (by simp)
 have n2 : b ∉ ks := fun q => hks _ q (by simp)
 have n3 : b' ∉ ks := fun q => hks _ q (by simp)
 have NK := Ho.mk (And.intro n1 (And.intro n2 n3))
 have HX := Ho.mk hX
 have HYl := Ho.mk hY
 have HY := Ho.mk hY'
 have H0 := Ho.mk h0
 clear hY' h0 n1 n2 n3 hks hW hX hY
 have y0 := KZ.out.cell (i := 0) rfl
 refine callsIn_wide.2 ?_
 go_enter Tryz.func132, Tryz.ntmps132
 refine (wpIn_wide (n := n)).1 ?_
 gi_wp2_with fail
 clear y0
 gi_loopw [4] (fun i wr => ∃ (k : Nat) (pre : List E4) (O : List Nat), i = .int .i64 (k : Int) ∧ Ho (pre.length + 1 = k) ∧ 1 ≤ k ∧ k ≤ m ∧ Ho (J pre O wr) ∧ Ho (Wk ks W wr) ∧ Ho (∀ q ∈ O, W.heap.size ≤ q)) (fun i _ => m - (intOf i).toNat)
 case atStart => exact ⟨1, [], [], rfl, ⟨rfl⟩, by omega, by omega, H0, ⟨Wk.refl _ _⟩, ⟨by simp⟩⟩
 case round =>
  obtain ⟨k, pre, O, rfl, hp, hk1, hk, hj, hw, hO⟩ := hrel
  rcases Nat.lt_or_ge k m with hlt | hge
  ·have KR := Ho.mk (hw.out.blk NK.out.1 KZ.out)
   obtain ⟨cx, kx, fx⟩ := FX.out.out
   obtain ⟨cy, ky, fy⟩ := FY.out.out
   have GX := Ho.mk (show Fz wr b X from ⟨cx, hw.out.blk NK.out.2.1 kx, fx⟩)
   have GY := Ho.mk (show Fz wr b' Y from ⟨cy, hw.out.blk NK.out.2.2 ky, fy⟩)
   clear kx fx ky fy
   have y0 := KR.out.cell (i := 0) rfl
   have y1 := KR.out.cell (i := 1) rfl
   obtain ⟨r0, x0, l0, c0⟩ := GX.out.at_ (i := k) (by rw [HX.out]; exact hlt)
   obtain ⟨r1, x1, l1, c1⟩ := GY.out.at_ (i := k) (by rw [HYl.out]; exact hlt)
   obtain ⟨r2, x2, l2, c2⟩ := GX.out.at_ (i := m - k) (by rw [HX.out]; omega)
   obtain ⟨r3, x3, l3, c3⟩ := GY.out.at_ (i := m - k) (by rw [HYl.out]; omega)
   have OK := Ho.mk (show (E4.mk k r0 r1 r2 r3).Ok X Y m from ⟨⟨⟨l0, l1⟩, l2, l3⟩, ⟨c0, c1⟩, c2, c3⟩)
   clear l0 l1 l2 l3 c0 c1 c2 c3
   have es : IntKind.i64.wrap ((m : Int) - (k : Int)) = ((m - k : Nat) : Int) := by rw [IntKind.wrap_i64]; omega
   have es2 : m - k < m := by omega
   have JD := Ho.mk (hJ _ _ _ O _ hj.out (St.of_bel (Bel.refl wr).drew _) (fun _ h => h) (fun _ h => .inl h))
   obtain ⟨fn, tmps, assign, body, hy, hR⟩ := HY.out pre O (E4.mk k r0 r1 r2 r3) wr.drew JD.out (by have := hp.out; omega) ⟨hp.out.symm, OK.out⟩ hO.out hw.out.size
   dsimp only [encE] at hy
   have HR := Ho.mk hR
   clear hR
   refine wpIn_wide.2 ?_
   go_upto_region 4 with fail
   refine (wpIn_wide (n := n)).1 ?_
   have BZ := Ho.mk (And.intro KZ.out.lt NK.out.1)
   have BX := Ho.mk (And.intro FX.out.lt NK.out.2.1)
   have BY := Ho.mk (And.intro FY.out.lt NK.out.2.2)
   refine Yi.held_wide (S := fun w' => ∀ k, k < W.heap.size → k ∉ ks → w'.heap[k]? = wr.heap[k]?) (by kernel_rfl) (fun _ _ _ => rfl) (fun hHeld => ?_)
   (try dsimp only at hHeld)
   refine Yi.wt (i := 0) hHeld ?_
   refine Yi.wt (i := 1) hHeld ?_
   refine Yi.wt (i := 2) hHeld ?_
   refine Yi.wl (i := 3) (v := ?_) hHeld (fun w' hSw => ?_) ?_
   rotate_left
   ·(have z0 := cellS hSw BZ.out.1 BZ.out.2 y0; go_simp; try (with_reducible rfl))
   refine Yi.wt (i := 4) hHeld ?_
   refine Yi.wt (i := 5) hHeld ?_
   refine Yi.wl (i := 6) (v := ?_) hHeld (fun w' hSw => ?_) ?_
   rotate_left
   ·(have z0 := cellS hSw BX.out.1 BX.out.2 x0; go_simp; try (with_reducible rfl))
   refine Yi.wt (i := 7) hHeld ?_
   refine Yi.wl (i := 8) (v := ?_) hHeld (fun w' hSw => ?_) ?_
   rotate_left
   ·(have z0 := cellS hSw BZ.out.1 BZ.out.2 y1; go_simp; try (with_reducible rfl))
   refine Yi.wt (i := 9) hHeld ?_
   refine Yi.wt (i := 10) hHeld ?_
   refine Yi.wl (i := 11) (v := ?_) hHeld (fun w' hSw => ?_) ?_
   rotate_left
   ·(have z0 := cellS hSw BY.out.1 BY.out.2 x1; go_simp; try (with_reducible rfl))
   refine Yi.wt (i := 12) hHeld ?_
   refine Yi.wl (i := 13) (v := ?_) hHeld (fun w' hSw => ?_) ?_
   rotate_left
   ·(have z0 := cellS hSw BZ.out.1 BZ.out.2 y0; go_simp; try (with_reducible rfl))
   refine Yi.wt (i := 14) hHeld ?_
   refine Yi.wt (i := 15) hHeld ?_
   refine Yi.wt (i := 16) hHeld ?_
   refine Yi.wt (i := 17) hHeld ?_
   refine Yi.wl (i := 18) (v := ?_) hHeld (fun w' hSw => ?_) ?_
   rotate_left
   ·(have z0 := cellS hSw BX.out.1 BX.out.2 x2; go_simp; try (with_reducible rfl))
   refine Yi.wt (i := 19) hHeld ?_
   refine Yi.wl (i := 20) (v := ?_) hHeld (fun w' hSw => ?_) ?_
   rotate_left
   ·(have z0 := cellS hSw BZ.out.1 BZ.out.2 y1; go_simp; try (with_reducible rfl))
   refine Yi.wt (i := 21) hHeld ?_
   refine Yi.wt (i := 22) hHeld ?_
   refine Yi.wt (i := 23) hHeld ?_
   refine Yi.wt (i := 24) hHeld ?_
   refine Yi.wl (i := 25) (v := ?_) hHeld (fun w' hSw => ?_) ?_
   rotate_left
   ·(have z0 := cellS hSw BY.out.1 BY.out.2 x3; go_simp; try (with_reducible rfl))
   refine Yi.wt (i := 26) hHeld ?_
   try simp only [Act.put, List.setIfInBounds_toArray, List.set_cons_zero, List.set_cons_succ]
   refine Yi.wc (i := 27) (fun K hK => ?_)
   refine ⟨fun _ _ => trivial, ?_⟩
   rw [show Fence.wide.round = none from rfl, Oper.semAt_none]
   go_simp
   refine HR.out.mono ?_
   have keepS : ∀ w4, Yd ks O W.heap.size wr.drew w4 → ∀ k, k < W.heap.size → k ∉ ks → w4.heap[k]? = wr.heap[k]? := fun w4 g k h1 h2 => by
    rcases g.block k (Nat.lt_of_lt_of_le h1 hw.out.size) with q | ⟨_, _, q | q⟩
    ·exact q
    ·exact (h2 q).elim
    ·omega
   rintro e w4 (⟨rfl, hJ4, hY4⟩ | ⟨rfl, hJ4, hY4⟩)
   ·have HJ := Ho.mk hJ4
    have HW := Ho.mk ((hw.out.bel (Bel.refl wr).drew).yd hY4)
    have HS := keepS _ hY4
    clear hJ4 hY4 hy keepS
    refine hK.out _ _ HS (fun hHeld => ?_)
    clear hK K HS
    refine Yi.wt (i := 28) hHeld ?_
    refine Yi.wdone (by kernel_rfl) ?_ _
    go_wp2_with fail
    go_roundw
    case rel => exact ⟨k + 1, _, O, rfl, ⟨by have := hp.out; rw [List.length_append, List.length_singleton]; omega⟩, by omega, by omega, HJ, HW, hO⟩
    case measure => simp [intOf]; omega
   ·have HJ := Ho.mk hJ4
    have HS := keepS _ hY4
    clear hJ4 hY4 hy keepS
    refine hK.out _ _ HS (fun hHeld => ?_)
    clear hK K HS
    refine Yi.wt (i := 28) hHeld ?_
    refine Yi.wdone (by kernel_rfl) ?_ _
    go_wp2_with fail
    refine bodyPost_ret (results_none rfl _ _ _) rfl ?_
    exact ⟨⟨_, rfl⟩, .inr ⟨_, O, trivial, HJ.out, hO.out⟩⟩
  ·obtain rfl : k = m := by omega
   gi_wp2
   go_end0
   first | exact ⟨⟨_, rfl⟩, .inl ⟨_, O, by have := hp.out; omega, hj.out, hO.out⟩⟩
theorem dEndsP {A B : Option Addr} {m m' c c' : Nat} (w : World) :
  Calls Tryz.prog 84 #[.agg #[.slice A m c, .slice B m' c']] w
   (fun e w' => e = .returned (.func (.func 132) #[] #[.pointer (some ⟨w.heap.size, 0, none⟩)]) ∧ w' = w.alloc (.cells #[.slice A m c, .slice B m' c'] 24)) := by
 go_enter Tryz.func84, Tryz.ntmps84
 go_wp2
 refine bodyPost_ret (results_tmp rfl _ _ _) rfl ?_
 simp
end Y4
namespace Po
open Ieee Go Gp Gq Gr G9 U0 W0 W1 W2 M0 M1 M2 M3 Pc
def nmB (x : Nat) : Bool := decide (x < 2 * sgnW) && (decide (frung x < infR) && (cn x == x))
theorem nm_of {x : Nat} (h : nmB x = true) : Nm x := by
 unfold nmB at h
 simp only [Bool.and_eq_true, decide_eq_true_eq, beq_iff_eq] at h
 exact ⟨h.1, h.2.1, h.2.2⟩
def tabOk (p : Nat) : Bool := (List.range (2 ^ (p - 1))).all fun j => nmB (tabW p j).1 && nmB (tabW p j).2
theorem tab_ok : ∀ p : Fin 8, tabOk p.val = true := by decide +kernel
def twp (p q k : Nat) : Nat × Nat := tabW p (k * 2 ^ (p - (q + 1)))
theorem twp_ok {p : Nat} (hp : p ≤ 7) : TwOk (twp p) p := by
 intro q k hq hk
 have h := tab_ok ⟨p, by omega⟩
 unfold tabOk at h
 simp only [List.all_eq_true, List.mem_range, Bool.and_eq_true] at h
 have hlt : k * 2 ^ (p - (q + 1)) < 2 ^ (p - 1) := by
  have := Nat.mul_lt_mul_of_pos_right hk (Nat.two_pow_pos (p - (q + 1)))
  rw [← Nat.pow_add, show q + (p - (q + 1)) = p - 1 by omega] at this
  exact this
 obtain ⟨a, b⟩ := h _ hlt
 exact ⟨nm_of a, nm_of b⟩
theorem fng_zero : fng 0 = 0 := by decide
theorem into_one {p a b : Nat} (hp : p ≤ 7) (ha : Nm a) (hb : Nm b) : intoN p (delta (2 ^ p) a, delta (2 ^ p) b) = (List.replicate (2 ^ p) a, List.replicate (2 ^ p) b) := by
 unfold intoN
 rw [into_rec opsN (tabW p) (twp p) hp (fun _ _ _ _ => rfl) _ (delta_len _ _) (delta_len _ _)]
 exact rec_one (twp p) p (twp_ok hp) ha hb
theorem into_alike {p a b : Nat} (hp : p ≤ 7) (ha : Up a p) (hb : Up b p) : intoN p (List.replicate (2 ^ p) a, List.replicate (2 ^ p) b) = (delta (2 ^ p) (pw a p), delta (2 ^ p) (pw b p)) := by
 unfold intoN
 rw [into_rec opsN (tabW p) (twp p) hp (fun _ _ _ _ => rfl) _ List.length_replicate List.length_replicate]
 exact rec_alike (twp p) p (twp_ok hp) ha hb
theorem up_mid {r : Nat} (h : r < 2 * sgnW) (hf : frung r ≤ infR) (hm : V r = 0 ∨ (mag (P2 723) ≤ (V r).natAbs ∧ (V r).natAbs ≤ mag (P2 1323))) : Up (cn r) 7 := by
 have hb : infR = 2047 * bn := by decide
 rcases hm with h0 | ⟨h1, h2⟩
 ·have e : frung r = 0 := by
   have := V_abs r
   rw [h0] at this
   exact mag_inj (by rw [← this, mag_zero]; rfl)
  have : cn r = 0 := by unfold cn; rw [if_neg (by omega), if_pos e]
  rw [this]
  exact ⟨nm_zero, .inl (by decide)⟩
 ·rw [V_abs, mag_le] at h1 h2
  unfold P2 at h1 h2
  have hpos : 0 < bn := by decide
  have hlt : frung r < infR := by omega
  have e : cn r = r := by unfold cn; rw [if_neg (by omega), if_neg (by omega)]
  rw [e]
  exact ⟨⟨h, hlt, e⟩, .inr ⟨by omega, by omega⟩⟩
end Po
namespace Y1
open Ieee Go Gp Gq Gr G9 U0 W0 W1 W2 M0 M1 M2 M3 Pc Po
section
variable {α : Type} (O : Ops α)
def binG (w : Nat × Nat) (x0 x1 x2 x3 : α) : α × α :=
 let t := cturn O (O.mul (O.add x1 x3) (O.lit halfW)) (O.mul (O.add (O.neg x0) x2) (O.lit halfW)) (O.lit w.1) (O.lit w.2)
 (O.add (O.mul (O.add x0 x2) (O.lit halfW)) t.1, O.add (O.mul (O.add x1 (O.neg x3)) (O.lit halfW)) t.2)
def packAt (tab : Nat → Nat × Nat) (m : Nat) (z : List α × List α) (i : Nat) : α :=
 if i = 0 then O.add (nthG O z.1 0) (nthG O z.2 0)
 else if i = 1 then O.sub (nthG O z.1 0) (nthG O z.2 0)
 else if i % 2 = 0 then (binG O (tab (i / 2)) (nthG O z.1 (i / 2)) (nthG O z.2 (i / 2)) (nthG O z.1 (m - i / 2)) (nthG O z.2 (m - i / 2))).1
 else (binG O (tab (i / 2)) (nthG O z.1 (i / 2)) (nthG O z.2 (i / 2)) (nthG O z.1 (m - i / 2)) (nthG O z.2 (m - i / 2))).2
end
def rfftZ (p : Nat) (X : List Nat) : List Nat × List Nat := intoN (p - 1) (evenG opsN X, oddG opsN X)
def rfftN (p : Nat) (X : List Nat) : List Nat := (List.range (2 ^ p)).map (packAt opsN (tabW p) (2 ^ (p - 1)) (rfftZ p X))
theorem rfftN_len (p : Nat) (X : List Nat) : (rfftN p X).length = 2 ^ p := by simp [rfftN]
theorem rfftN_at (p : Nat) (X : List Nat) {i : Nat} (h : i < 2 ^ p) : nthN (rfftN p X) i = packAt opsN (tabW p) (2 ^ (p - 1)) (rfftZ p X) i := nthG_map opsN _ h
theorem half_P2 : halfW = P2 (1023 - 1) := by decide +kernel
theorem half_nm : Nm halfW := by rw [half_P2]; exact (P2_facts (by decide) (by decide)).1
theorem tab_nm {p k : Nat} (hp : p ≤ 7) (hk : k < 2 ^ (p - 1)) : Nm (tabW p k).1 ∧ Nm (tabW p k).2 := by
 have h := tab_ok ⟨p, by omega⟩
 unfold tabOk at h
 simp only [List.all_eq_true, List.mem_range, Bool.and_eq_true] at h
 exact ⟨nm_of (h k hk).1, nm_of (h k hk).2⟩
theorem turn_zero {w : Nat × Nat} (h : Nm w.1 ∧ Nm w.2) : cturn opsN 0 0 w.1 w.2 = (0, 0) := by
 have := tw_zero (tw := fun _ => w) (k := 1) h
 exact this
theorem bin_zero {w : Nat × Nat} (h : Nm w.1 ∧ Nm w.2) : binG opsN w 0 0 0 0 = (0, 0) := by
 have e1 : opsN.add 0 0 = 0 := fadd_zero nm_zero
 have e2 : opsN.mul 0 halfW = 0 := zero_fmul half_nm
 have e3 : opsN.neg 0 = 0 := fng_zero
 have e4 : ∀ n, opsN.lit n = n := fun _ => rfl
 unfold binG
 simp only [e1, e2, e3, e4, turn_zero h]
theorem bin_one {w : Nat × Nat} (h : Nm w.1 ∧ Nm w.2) {a : Nat} (ha : Up a 1) : binG opsN w a 0 a 0 = (a, 0) := by
 have e1 : opsN.add 0 0 = 0 := fadd_zero nm_zero
 have e2 : opsN.mul 0 halfW = 0 := zero_fmul half_nm
 have e3 : opsN.neg 0 = 0 := fng_zero
 have e4 : ∀ n, opsN.lit n = n := fun _ => rfl
 have e5 : opsN.add (opsN.neg a) a = 0 := by
  obtain ⟨h1, h2⟩ := fng_facts ha.nm
  show fadd (fng a) a = 0
  rw [fadd_fin h1 ha.nm, h2, Int.add_left_neg, R_zero]
 have e6 : opsN.mul (opsN.add a a) halfW = a := by
  show fmul (fadd a a) halfW = a
  have := pw_add ha (k := 0) (by omega)
  rw [pw_zero ha.nm] at this
  rw [this, half_P2]
  exact pw_down ha (by omega) (by omega)
 have e7 : opsN.add a 0 = a := fadd_zero ha.nm
 unfold binG
 simp only [e1, e2, e3, e4, e5, e6, e7, turn_zero h]
theorem two_half {p : Nat} (h : 1 ≤ p) : 2 ^ p = 2 * 2 ^ (p - 1) := by rw [← two_pow, show p - 1 + 1 = p by omega]
theorem rfft_one {p a i : Nat} (hp : 1 ≤ p) (hp7 : p ≤ 7) (ha : Up a 1) (hi : i < 2 ^ p) : nthN (rfftN p (delta (2 ^ p) a)) i = if i ≤ 1 ∨ i % 2 = 0 then a else 0 := by
 have z : rfftZ p (delta (2 ^ p) a) = (List.replicate (2 ^ (p - 1)) a, List.replicate (2 ^ (p - 1)) 0) := by
  unfold rfftZ
  rw [two_half hp, even_delta, odd_delta, show (List.replicate (2 ^ (p - 1)) 0 : List Nat) = delta (2 ^ (p - 1)) 0 from ?_]
  ·rw [into_one (by omega) ha.nm nm_zero]
   congr 1
   apply List.ext_getElem (by simp [delta])
   intro j h1 h2
   simp [delta]
  ·apply List.ext_getElem (by simp [delta])
   intro j h1 h2
   simp [delta]
 have hm : 0 < 2 ^ (p - 1) := Nat.two_pow_pos _
 have h2 := two_half hp
 rw [rfftN_at _ _ hi, z]
 unfold packAt
 by_cases h0 : i = 0
 ·rw [if_pos h0, nth_rep hm, nth_rep hm, if_pos (by omega)]; exact fadd_zero ha.nm
 ·rw [if_neg h0]
  by_cases h1 : i = 1
  ·rw [if_pos h1, nth_rep hm, nth_rep hm, if_pos (by omega)]; exact fsub_zero ha.nm
  ·rw [if_neg h1, nth_rep (by omega), nth_rep (by omega), nth_rep (by omega), nth_rep (by omega), bin_one (tab_nm hp7 (by omega)) ha]
   by_cases h3 : i % 2 = 0
   ·rw [if_pos h3, if_pos (.inr h3)]
   ·rw [if_neg h3, if_neg (by omega)]
theorem rfft_alike {p a i : Nat} (hp : 1 ≤ p) (hp7 : p ≤ 7) (ha : Up a p) (hi : i < 2 ^ p) : nthN (rfftN p (List.replicate (2 ^ p) a)) i = if i = 0 then pw a p else 0 := by
 have z : rfftZ p (List.replicate (2 ^ p) a) = (delta (2 ^ (p - 1)) (pw a (p - 1)), delta (2 ^ (p - 1)) (pw a (p - 1))) := by
  unfold rfftZ
  rw [two_half hp, even_rep, odd_rep, into_alike (by omega) (ha.mono (by omega)) (ha.mono (by omega))]
 have hm : 0 < 2 ^ (p - 1) := Nat.two_pow_pos _
 have h2 := two_half hp
 have nd : ∀ j, j < 2 ^ (p - 1) → j ≠ 0 → nthG opsN (delta (2 ^ (p - 1)) (pw a (p - 1))) j = 0 := fun j h1 h2 => by rw [nth_delta h1, if_neg h2]
 rw [rfftN_at _ _ hi, z]
 unfold packAt
 by_cases h0 : i = 0
 ·rw [if_pos h0, if_pos h0, nth_delta hm, if_pos rfl]
  have := pw_add ha (k := p - 1) (by omega)
  rw [show p - 1 + 1 = p by omega] at this
  exact this
 ·rw [if_neg h0, if_neg h0]
  by_cases h1 : i = 1
  ·rw [if_pos h1, nth_delta hm, if_pos rfl]; exact pw_sub ha (by omega)
  ·rw [if_neg h1, nd _ (by omega) (by omega), nd _ (by omega) (by omega), bin_zero (tab_nm hp7 (by omega))]
   by_cases h3 : i % 2 = 0
   ·rw [if_pos h3]
   ·rw [if_neg h3]
end Y1
namespace Y5
open Ieee Go Go.RowKit Go.Proofs Go.Proofs.YtnbdoidccacdnaaGreatDoor Ow Dt Gp I0 U0 W0 S4 S6 P0 M0 M1 M3 W4 W5 V2 P4 Y3 Yh Y4 Y1 P8 Pc
open Go.Proofs.YtnbdoidccacdnaaGreatDoor.V1 (NI St ni_same ni_loop St.refl St.of_bel blk_keep ni_blk put_st)
open Go.Proofs.YtnbdoidccacdnaaGreatDoor.C6 (leaveAny)
open Go.Proofs.YtnbdoidccacdnaaGreatDoor.Pg (In)
attribute [local go_sem ↓] Go.wp_at_zero Go.wp_at_succ
attribute [local go_sem] Oper.semAt_some
theorem log_pow : ∀ p : Fin 8, logI (2 ^ p.val) = (p.val : Int) := by decide +kernel
theorem logI_pow {n p : Nat} (h : n = 2 ^ p) (hp : p ≤ 7) : logI n = (p : Int) := by subst h; exact log_pow ⟨p, by omega⟩
theorem fk_zero {w : World} {b N : Nat} (K : Blk w b 50 (List.replicate N (.float .f64 0))) : Fk w b (List.replicate N 0) :=
 ⟨_, K, by simp, fun j v hv => by
  rw [List.getElem?_replicate] at hv
  split at hv
  ·rename_i h
   cases hv
   exact ⟨0, rfl, by decide, by simp [nthN, List.getD_eq_getElem?_getD, List.getElem?_replicate, h, cn_zero]⟩
  ·cases hv⟩
def upTo (f : Nat → Nat) (n k : Nat) : List Nat := (List.range n).map fun i => if i < k then f i else 0
theorem upTo_len (f : Nat → Nat) (n k : Nat) : (upTo f n k).length = n := by simp [upTo]
theorem upTo_zero (f : Nat → Nat) (n : Nat) : upTo f n 0 = List.replicate n 0 := by
 apply List.ext_getElem (by simp [upTo])
 intro i h1 h2
 simp [upTo]
theorem upTo_all (f : Nat → Nat) (n : Nat) : upTo f n n = (List.range n).map f := by
 apply List.ext_getElem (by simp [upTo])
 intro i h1 h2
 have : i < n := by simpa [upTo] using h1
 simp [upTo, this]
theorem upTo_two (f : Nat → Nat) {n k : Nat} (h : 2 * k + 1 < n) {a b : Nat} (ha : a = f (2 * k)) (hb : b = f (2 * k + 1)) : ((upTo f n (2 * k)).set (2 * k) a).set (2 * k + 1) b = upTo f n (2 * (k + 1)) := by
 subst ha; subst hb
 apply List.ext_getElem (by simp [upTo])
 intro i h1 h2
 simp only [upTo, List.getElem_set, List.getElem_map, List.getElem_range]
 by_cases e1 : 2 * k + 1 = i
 ·subst e1; rw [if_pos rfl, if_pos (by omega)]
 ·rw [if_neg e1]
  by_cases e2 : 2 * k = i
  ·subst e2; rw [if_pos rfl, if_pos (by omega)]
  ·rw [if_neg e2]
   by_cases h3 : i < 2 * k
   ·rw [if_pos h3, if_pos (by omega)]
   ·rw [if_neg h3, if_neg (by omega)]
def frm (u : Nat → Value) (pz po pp pw pk px : Value) : Act := { tmps := #[u 0, u 1, u 2, u 3, u 4, pz, po, pp, u 8, u 9, u 10, u 11, pw, pk, px, u 15, u 16, u 17, u 18, u 19, u 20, u 21, u 22, u 23, u 24, u 25, u 26, u 27, u 28, u 29, u 30, u 31, u 32, u 33, u 34, u 35, u 36, u 37, u 38, u 39, u 40, u 41, u 42, u 43, u 44, u 45, u 46, u 47, u 48, u 49, u 50, u 51, u 52, u 53, u 54, u 55, u 56, u 57, u 58, u 59, u 60, u 61, u 62, u 63, u 64, u 65, u 66, u 67, u 68, u 69, u 70, u 71, u 72, u 73, u 74, u 75, u 76, u 77, u 78, u 79, u 80, u 81, u 82, u 83, u 84, u 85, u 86, u 87, u 88, u 89, u 90, u 91, u 92, u 93, u 94, u 95, u 96, u 97, u 98, u 99, u 100, u 101, u 102, u 103, u 104, u 105, u 106, u 107, u 108, u 109, u 110, u 111, u 112, u 113, u 114, u 115, u 116, u 117, u 118, u 119, u 120, u 121, u 122, u 123, u 124, u 125, u 126, u 127, u 128, u 129, u 130, u 131, u 132, u 133, u 134, u 135, u 136, u 137, u 138, u 139, u 140], defers := [] }
theorem frm_mk {a : Act} {pz po pp pw pk px : Value} (h : a = frm (fun i => a.tmps.getD i undef) pz po pp pw pk px) : ∃ u, a = frm u pz po pp pw pk px := ⟨_, h⟩
theorem bin_law {wd : Nat × Nat} {xa xb xc xd r1 s1 r2 s2 r3 s3 r4 s4 r5 s5 r6 s6 c5 d5 X0 X1 X2 X3 : Nat} (la : xa < 2 * sgnW) (ld : xd < 2 * sgnW) (ha : cn xa = X0) (hb : cn xb = X1) (hc : cn xc = X2) (hd : cn xd = X3)
  (h1 : cn r1 = fadd (cn xa) (cn xc) ∧ cn s1 = fadd (cn xb) (cn (Op.negFloat .f64 xd))) (h2 : cn r2 = fadd (cn xb) (cn xd) ∧ cn s2 = fadd (cn (Op.negFloat .f64 xa)) (cn xc))
  (h3 : cn r3 = fmul (cn r1) (cn 4602678819172646912) ∧ cn s3 = fmul (cn s1) (cn 4602678819172646912)) (h4 : cn r4 = fmul (cn r2) (cn 4602678819172646912) ∧ cn s4 = fmul (cn s2) (cn 4602678819172646912))
  (hw : cn c5 = wd.1 ∧ cn d5 = wd.2) (h5 : cn r5 = fadd (fmul (cn r4) (cn c5)) (fmul (cn s4) (cn d5)) ∧ cn s5 = fsub (fmul (cn s4) (cn c5)) (fmul (cn r4) (cn d5)))
  (h6 : cn r6 = fadd (cn r3) (cn r5) ∧ cn s6 = fadd (cn s3) (cn s5)) : cn r6 = (binG opsN wd X0 X1 X2 X3).1 ∧ cn s6 = (binG opsN wd X0 X1 X2 X3).2 := by
 have eh : cn 4602678819172646912 = halfW := by decide +kernel
 rw [neg_cn ld] at h1
 rw [neg_cn la] at h2
 rw [eh] at h3 h4
 rw [h6.1, h6.2, h3.1, h3.2, h5.1, h5.2, h4.1, h4.2, h1.1, h1.2, h2.1, h2.2, hw.1, hw.2, ha, hb, hc, hd]
 exact ⟨rfl, rfl⟩
theorem pack_at {p m k : Nat} {Z : List Nat × List Nat} (hk : 1 ≤ k) : packAt opsN (tabW p) m Z (2 * k) = (binG opsN (tabW p k) (nthN Z.1 k) (nthN Z.2 k) (nthN Z.1 (m - k)) (nthN Z.2 (m - k))).1 ∧ packAt opsN (tabW p) m Z (2 * k + 1) = (binG opsN (tabW p k) (nthN Z.1 k) (nthN Z.2 k) (nthN Z.1 (m - k)) (nthN Z.2 (m - k))).2 := by
 unfold packAt
 constructor
 ·rw [if_neg (by omega), if_neg (by omega), if_pos (by omega), show 2 * k / 2 = k by omega]; rfl
 ·rw [if_neg (by omega), if_neg (by omega), if_neg (by omega), show (2 * k + 1) / 2 = k by omega]; rfl
theorem dRfftOk {A : Option Addr} {c p : Nat} {X : List Nat} (w : World) (T : Tab w) (hx : In w (.slice A X.length c) X) (hp : X.length = 2 ^ p) (h1 : 1 ≤ p) (hp7 : p ≤ 7) :
  Calls Tryz.prog 38 #[.slice A X.length c] w fun e w' => ∃ b, e = .returned (.tuple #[.slice (some ⟨b, 0, none⟩) X.length X.length, .int .i64 0]) ∧ Fk w' b (rfftN p X) ∧ w.heap.size ≤ b ∧ Bel w w' := by
 obtain ⟨m, hm⟩ : ∃ m, m = 2 ^ (p - 1) := ⟨_, rfl⟩
 have hn2 : X.length = 2 * m := by rw [hm, ← two_half h1]; exact hp
 have hm1 : 1 ≤ m := by rw [hm]; exact Nat.two_pow_pos _
 have hm0 : 0 < m := hm1
 have hn128 : X.length ≤ 128 := by rw [hp]; exact Nat.le_trans (Nat.pow_le_pow_right (by decide) hp7) (by decide)
 have hm64 : m ≤ 64 := by omega
 have HP := Ho.mk hp
 have HM := Ho.mk hm
 have HN2 := Ho.mk hn2
 have TT := Ho.mk T
 have HX := Ho.mk hx
 have C0 := dLogR (n := X.length) rfl w (by omega) T
 rw [logI_pow hp hp7] at C0
 have C0 := Ho.mk C0
 have C1 := Ho.mk (dEven w hx (by omega))
 have lE : (M2.evenG opsN X).length = m := by rw [M2.evenG_len]; omega
 have lO : (M2.oddG opsN X).length = m := by rw [M2.oddG_len]; omega
 obtain ⟨Ze, hZe⟩ : ∃ Ze, Ze = M2.evenG opsN X := ⟨_, rfl⟩
 obtain ⟨Zo, hZo⟩ : ∃ Zo, Zo = M2.oddG opsN X := ⟨_, rfl⟩
 rw [← hZe] at lE C1
 rw [← hZo] at lO
 have HZ := Ho.mk (And.intro hZe hZo)
 have LE := Ho.mk lE
 have LO := Ho.mk lO
 clear hp hm T hx hZe hZo lE lO hn2
 refine (callsIn_wide (n := 3)).1 ?_
 refine callsIn_of_wp_marks Tryz.func38 rfl trivial ?_ rfl
 simp only [Tryz.ntmps38, List.size_toArray, List.length_cons, List.length_nil, Nat.reduceAdd, Nat.reduceSub, Array.replicate_succ, Array.replicate_zero, List.push_toArray, List.append_toArray, List.nil_append, List.cons_append]
 refine wpIn_wide.2 ?_
 go_wp2_with fail
 (with_reducible refine C0.out.mono ?_); rintro e w0 ⟨rfl, rfl⟩
 clear C0
 go_wp2_with fail
 (with_reducible refine C1.out.mono ?_); rintro e w1 ⟨A1, cE, rfl, g1, b1⟩
 obtain ⟨bE, cq, e, hcE, hcE2, H⟩ := (Hp.nil (Bel.refl w)).rowF b1 (Og.rowF g1.1 g1.2) (by rw [LE.out]; exact hm1)
 rw [LE.out] at e hcE ⊢
 cases e
 replace H := Ho.mk H
 have CE := Ho.mk (And.intro hcE hcE2)
 have C2 := dOdd w1 (HX.out.bel b1) (by omega)
 rw [← HZ.out.2] at C2
 have C2 := Ho.mk C2
 clear C1 g1 b1 hcE hcE2
 go_wp2_with fail
 (with_reducible refine C2.out.mono ?_); rintro e w2 ⟨A1, cO, rfl, g1, b1⟩
 obtain ⟨bO, cq, e, hcO, hcO2, H⟩ := H.out.rowF b1 (Og.rowF g1.1 g1.2) (by rw [LO.out]; exact hm1)
 rw [LO.out] at e hcO ⊢
 cases e
 replace H := Ho.mk H
 have CO := Ho.mk (And.intro hcO hcO2)
 clear C2 g1 b1 hcO hcO2
 go_upto_region 5 with fail
 replace H := Ho.mk (H.out.box [.slice (some ⟨bE, 0, none⟩) m cE, .slice (some ⟨bO, 0, none⟩) m cO] 24)
 generalize w2.alloc (.cells #[.slice (some ⟨bE, 0, none⟩) m cE, .slice (some ⟨bO, 0, none⟩) m cO] 24) = w3 at *
 generalize w2.heap.size = bz at *
 have y0 := (H.out.blk 0 rfl).cell (i := 0) rfl
 have y1 := (H.out.blk 0 rfl).cell (i := 1) rfl
 have C3 := Ho.mk (dInto (p := p - 1) (N := m) w3 (TT.out.bel H.out.bel) (H.out.row 2 rfl) (H.out.row 1 rfl) (H.out.ne 2 1 rfl rfl) HM.out LE.out LO.out (by omega) CE.out.1 CO.out.1 CE.out.2 CO.out.2)
 go_wp2_with fail
 (with_reducible refine C3.out.mono ?_); rintro e w4 ⟨rfl, f1, f2, G⟩
 replace H := Ho.mk (H.out.gr2 2 1 rfl rfl G (by decide) f1 f2)
 simp only [List.set_cons_zero, List.set_cons_succ] at H
 obtain ⟨Z, hZ⟩ : ∃ Z, Z = intoG opsN (bitsG (p - 1)) (p - 1) (tabW (p - 1)) (Ze, Zo) := ⟨_, rfl⟩
 rw [← hZ] at H
 have ZR := Ho.mk (show Z = rfftZ p X by unfold rfftZ intoN; rw [← HZ.out.1, ← HZ.out.2]; exact hZ)
 have ZL := Ho.mk (show Z.1.length = m ∧ Z.2.length = m by rw [hZ]; have := intoN_len (p := p - 1) (st := (Ze, Zo)) (by rw [← HM.out]; exact LE.out) (by rw [← HM.out]; exact LO.out); rw [← HM.out] at this; exact this)
 clear C3 f1 f2 G hZ y0 y1
 go_wp2_with (at_make; refine wpList_mk _ rfl _ _ 97 rfl 50 (.float .f64 0) 8 Tryz.underlying97 infoF rfl X.length rfl rfl (by omega) (by omega) ?_; intro w5 hk5 hb5 hs5)
 replace H := Ho.mk (H.out.new (e := .whole w4.heap.size (List.replicate X.length 0)) hb5 (fk_zero hk5) (Nat.le_refl _))
 clear hk5 hb5
 generalize w4.heap.size = bo at *
 replace H := Ho.mk (H.out.box [.func (.func 80) #[.slice (some ⟨bo, 0, none⟩) X.length X.length] #[]] 98)
 rw [hs5] at H
 clear hs5
 generalize w5.alloc (.cells #[.func (.func 80) #[.slice (some ⟨bo, 0, none⟩) X.length X.length] #[]] 98) = w6 at *
 have ZL1 := ZL.out.1
 have ZL2 := ZL.out.2
 have y0 := (H.out.blk 2 rfl).cell (i := 0) rfl
 have y1 := (H.out.blk 2 rfl).cell (i := 1) rfl
 obtain ⟨r0, x0, l0, c0⟩ := (H.out.row 4 rfl).at_ (i := 0) (by omega)
 obtain ⟨r1, x1, l1, c1⟩ := (H.out.row 3 rfl).at_ (i := 0) (by omega)
 have RL := Ho.mk (And.intro (And.intro l0 c0) (And.intro l1 c1))
 have AD := Ho.mk (fun w => P2.dCAdd w RL.out.1.1 (show 0 < 2 * sgnW by decide) RL.out.2.1 (show 0 < 2 * sgnW by decide))
 have SU := Ho.mk (fun w => P2.dCSub w RL.out.1.1 (show 0 < 2 * sgnW by decide) RL.out.2.1 (show 0 < 2 * sgnW by decide))
 clear l0 c0 l1 c1 ZL1 ZL2
 refine then_falseW ?_
 refine wp_region_held_drew (S := fun w' => Bel w6 w') (by kernel_rfl) (Bel.refl _).drew (fun hHeld => ?_)
 (try dsimp only at hHeld)
 refine rt (i := 0) hHeld ?_
 refine rl (i := 1) (v := ?_) hHeld (fun w' hSw => ?_) ?_
 rotate_left
 ·(have z0 := hSw.cell y0; go_simp; try (with_reducible rfl))
 refine rt (i := 2) hHeld ?_
 refine rl (i := 3) (v := ?_) hHeld (fun w' hSw => ?_) ?_
 rotate_left
 ·(have z0 := hSw.cell x0; go_simp; try (with_reducible rfl))
 refine rt (i := 4) hHeld ?_
 refine rl (i := 5) (v := ?_) hHeld (fun w' hSw => ?_) ?_
 rotate_left
 ·(have z0 := hSw.cell y1; go_simp; try (with_reducible rfl))
 refine rt (i := 6) hHeld ?_
 refine rl (i := 7) (v := ?_) hHeld (fun w' hSw => ?_) ?_
 rotate_left
 ·(have z0 := hSw.cell x1; go_simp; try (with_reducible rfl))
 try simp only [Act.put, List.setIfInBounds_toArray, List.set_cons_zero, List.set_cons_succ]
 refine rc (i := 8) (fun K hK => ?_)
 go_simp
 go_at_call 81
 (with_reducible refine (AD.out _).mono ?_); rintro e wqa ⟨ra, sa, rfl, la, ca, bqa⟩
 try go_wp2_with fail
 refine hK.out _ _ (Bel.trans hHeld bqa) (fun hHeld => ?_)
 clear hK K
 refine rt (i := 9) hHeld ?_
 refine rt (i := 10) hHeld ?_
 refine rt (i := 11) hHeld ?_
 refine rt (i := 12) hHeld ?_
 refine rt (i := 13) hHeld ?_
 try simp only [Act.put, List.setIfInBounds_toArray, List.set_cons_zero, List.set_cons_succ]
 refine wpAnyH_done (by kernel_rfl) ?_ _
 have Ha := Ho.mk (And.intro la.1 ca.1)
 have BQa := Ho.mk ((Bel.refl w6).drew.trans bqa)
 clear la ca hHeld
 have y0 := BQa.out.cell y0
 have y1 := BQa.out.cell y1
 have x0 := BQa.out.cell x0
 have x1 := BQa.out.cell x1
 go_upto_region 9 with fail
 refine then_falseW ?_
 refine wp_region_held_drew (S := fun w' => Bel wqa w') (by kernel_rfl) (Bel.refl _).drew (fun hHeld => ?_)
 (try dsimp only at hHeld)
 refine rt (i := 0) hHeld ?_
 refine rl (i := 1) (v := ?_) hHeld (fun w' hSw => ?_) ?_
 rotate_left
 ·(have z0 := hSw.cell y0; go_simp; try (with_reducible rfl))
 refine rt (i := 2) hHeld ?_
 refine rl (i := 3) (v := ?_) hHeld (fun w' hSw => ?_) ?_
 rotate_left
 ·(have z0 := hSw.cell x0; go_simp; try (with_reducible rfl))
 refine rt (i := 4) hHeld ?_
 refine rl (i := 5) (v := ?_) hHeld (fun w' hSw => ?_) ?_
 rotate_left
 ·(have z0 := hSw.cell y1; go_simp; try (with_reducible rfl))
 refine rt (i := 6) hHeld ?_
 refine rl (i := 7) (v := ?_) hHeld (fun w' hSw => ?_) ?_
 rotate_left
 ·(have z0 := hSw.cell x1; go_simp; try (with_reducible rfl))
 try simp only [Act.put, List.setIfInBounds_toArray, List.set_cons_zero, List.set_cons_succ]
 refine rc (i := 8) (fun K hK => ?_)
 go_simp
 go_at_call 82
 (with_reducible refine (SU.out _).mono ?_); rintro e wqb ⟨rb, sb, rfl, lb, cb, bqb⟩
 try go_wp2_with fail
 refine hK.out _ _ (Bel.trans hHeld bqb) (fun hHeld => ?_)
 clear hK K
 refine rt (i := 9) hHeld ?_
 refine rt (i := 10) hHeld ?_
 refine rt (i := 11) hHeld ?_
 refine rt (i := 12) hHeld ?_
 refine rt (i := 13) hHeld ?_
 try simp only [Act.put, List.setIfInBounds_toArray, List.set_cons_zero, List.set_cons_succ]
 refine wpAnyH_done (by kernel_rfl) ?_ _
 have Hb := Ho.mk (And.intro lb.1 cb.1)
 have BQb := Ho.mk ((Bel.refl wqa).drew.trans bqb)
 clear lb cb hHeld
 replace H := Ho.mk ((H.out.grow BQa.out).grow BQb.out)
 clear y0 y1 x0 x1 AD SU BQa BQb
 have y0 := (H.out.blk 0 rfl).cell (i := 0) rfl
 have PU := Ho.mk (dPut (n := X.length) (c := X.length) (k := 0) wqb (H.out.whole 1 rfl) (by have := HN2.out; omega) List.length_replicate (by omega) Ha.out.1 Hb.out.1)
 go_wp2_with fail
 (refine PU.out.mono ?_); rintro e w7 ⟨rfl, f1, G⟩
 replace H := Ho.mk (H.out.grW 1 rfl G f1)
 simp only [List.set_cons_zero, List.set_cons_succ] at H
 obtain ⟨pf, hpf⟩ : ∃ pf, pf = packAt opsN (tabW p) m Z := ⟨_, rfl⟩
 have e0 : cn ra = pf (2 * 0) := by rw [hpf, Ha.out.2, RL.out.1.2, RL.out.2.2]; rfl
 have e1 : cn rb = pf (2 * 0 + 1) := by rw [hpf, Hb.out.2, RL.out.1.2, RL.out.2.2]; rfl
 have e2 := upTo_two pf (n := X.length) (k := 0) (by have := HN2.out; omega) e0 e1
 rw [upTo_zero] at e2
 rw [e2] at H
 have HPF := Ho.mk hpf
 have TB := Ho.mk (dTable (q := p) (m := m) (qi := (p : Int)) (mi := (m : Int)) w7 (TT.out.bel H.out.bel) rfl (by omega) rfl (by omega))
 have ed : (X.length : Int).tdiv 2 = (m : Int) := by rw [HN2.out, Int.tdiv_eq_ediv_of_nonneg (by omega)]; omega
 clear f1 G hpf e0 e1 e2 PU y0
 go_wp2_with fail
 (with_reducible refine TB.out.mono ?_); rintro e w8 ⟨b1, b2, rfl, f1, f2, le1, lt2, bt⟩
 replace H := Ho.mk (H.out.comb (Hp.two bt f1 f2 le1 lt2))
 simp only [List.cons_append, List.nil_append] at H
 clear f1 f2 le1 lt2 bt TB
 go_upto_region 12 with fail
 replace H := Ho.mk (H.out.box [.slice (some ⟨b1, 0, none⟩) m m, .slice (some ⟨b2, 0, none⟩) m m] 24)
 generalize w8.alloc (.cells #[.slice (some ⟨b1, 0, none⟩) m m, .slice (some ⟨b2, 0, none⟩) m m] 24) = w9 at *
 generalize w8.heap.size = bw at *
 have y0 := (H.out.blk 5 rfl).cell (i := 0) rfl
 have y1 := (H.out.blk 5 rfl).cell (i := 1) rfl
 have EN := Ho.mk (dEndsP (A := some ⟨bE, 0, none⟩) (B := some ⟨bO, 0, none⟩) (m := m) (m' := m) (c := cE) (c' := cO) w9)
 go_wp2_with fail
 (with_reducible refine EN.out.mono ?_); rintro e w10 ⟨rfl, rfl⟩
 clear EN y0 y1
 replace H := Ho.mk (H.out.box [.slice (some ⟨bE, 0, none⟩) m cE, .slice (some ⟨bO, 0, none⟩) m cO] 24)
 generalize w9.alloc (.cells #[.slice (some ⟨bE, 0, none⟩) m cE, .slice (some ⟨bO, 0, none⟩) m cO] 24) = w10 at *
 generalize w9.heap.size = bs at *
 go_wp2_with fail
 have HB := Ho.mk H.out.bel
 have HBs := HB.out.size
 refine (wpIn_wide (n := 3)).1 ?_
 refine rangeB (α := E4) (encs := encE) (bs := [bo]) (N := m - 1) (Bd := False) (Px := fun pre x _ => x.k = pre.length + 1 ∧ x.Ok Z.1 Z.2 m) (S := fun zs => zs.length = m - 1) (Sp := fun _ => True)
  (by omega) rfl (fun args w => by rfl) (fun x => by rfl) (by intro k hk; simp at hk; subst hk; have q := H.out.ltI 5 rfl; exact q) ?_
  (fun pre O W => Hp w W ([.blk bs 24 [.slice (some ⟨bE, 0, none⟩) m cE, .slice (some ⟨bO, 0, none⟩) m cO], .blk bw 24 [.slice (some ⟨b1, 0, none⟩) m m, .slice (some ⟨b2, 0, none⟩) m m], .whole b1 ((List.range m).map fun k => (tabW p k).1), .whole b2 ((List.range m).map fun k => (tabW p k).2), .blk (bo + 1) 98 [.func (.func 80) #[.slice (some ⟨bo, 0, none⟩) X.length X.length] #[]], .whole bo (upTo pf X.length (2 * (pre.length + 1))), .blk bz 24 [.slice (some ⟨bE, 0, none⟩) m cE, .slice (some ⟨bO, 0, none⟩) m cO], .row bO Z.2, .row bE Z.1]) ∧ w10.heap.size ≤ W.heap.size ∧ ∀ k ∈ O, w10.heap.size ≤ k ∧ k < W.heap.size) (fun _ _ _ _ => False) (fun h => h.elim) (fun pre => hp_abides (by intro e he; simp at he; rcases he with rfl | rfl | rfl | rfl | rfl | rfl | rfl | rfl | rfl <;> first | (have q := H.out.ltI 0 rfl; exact q) | (have q := H.out.ltI 1 rfl; exact q) | (have q := H.out.ltI 2 rfl; exact q) | (have q := H.out.ltI 3 rfl; exact q) | (have q := H.out.ltI 4 rfl; exact q) | (have q := H.out.ltI 5 rfl; exact q) | (have q := H.out.ltI 6 rfl; exact q) | (have q := H.out.ltI 7 rfl; exact q) | (have q := H.out.ltI 8 rfl; exact q)) HBs) (fun _ _ _ _ _ _ h => h.elim) ?_
  (fun pre x a' W => ∃ kb, (∃ u, a' = frm u (.pointer (some ⟨bz, 0, none⟩)) (.slice (some ⟨bo, 0, none⟩) X.length X.length) (.pointer (some ⟨bo + 1, 0, none⟩)) (.pointer (some ⟨bw, 0, none⟩)) (.int .i64 (x.k : Int)) (.pointer (some ⟨kb, 0, none⟩))) ∧ Blk W kb 105 [.float .f64 x.a, .float .f64 x.b, .float .f64 x.c, .float .f64 x.d] ∧ x.k = pre.length + 1 ∧ x.Ok Z.1 Z.2 m) ?_ ?_ ?_ ?_ ?_
 ·-- the iterator's promise
  intro W hW hBW
  refine ends1 (m := m) (c := cE) (c' := cO) W (H.out.grow hBW |>.blk 0 rfl) ((H.out.grow hBW).row 8 rfl) ((H.out.grow hBW).row 7 rfl) ZL.out.1 ZL.out.2 hm1 (by omega) _ _ W _ (by omega) (Bel.refl W) ?_
  intro k hk
  simp at hk
  have n1 : bo ≠ bs := by have q := H.out.ne 5 0 rfl rfl; exact q
  have n2 : bo ≠ bE := by have q := H.out.ne 5 8 rfl rfl; exact q
  have n3 : bo ≠ bO := by have q := H.out.ne 5 7 rfl rfl; exact q
  have m1 : bs < w10.heap.size := by have q := H.out.ltI 0 rfl; exact q
  have m2 : bE < w10.heap.size := by have q := H.out.ltI 8 rfl; exact q
  have m3 : bO < w10.heap.size := by have q := H.out.ltI 7 rfl; exact q
  simp
  rcases hk with rfl | rfl
  ·exact ⟨n1, n2, n3⟩
  ·omega
 ·exact ⟨H.out, Nat.le_refl _, by simp⟩
 ·-- the loop's record
  rintro pre x a' V r o hr ⟨kb, hu, hk, h3⟩
  refine ⟨kb, hu, blk_keep hk (World.putObj_heap_other ?_), h3⟩
  rintro rfl
  have := hk.out
  rw [hr] at this; simp at this
 ·-- the loop's variables
  rintro l pre O x W K hI hsz hx hK
  simp [encE]
  gi_wp2
  refine hK _ _ ((Bel.refl W).alloc _) ⟨W.heap.size, frm_mk (by rfl), Blk.new W [.float .f64 x.a, .float .f64 x.b, .float .f64 x.c, .float .f64 x.d] _, hx.1, hx.2⟩
 ·-- a round
  rintro l pre O x a' W ⟨hH, hB, hO2⟩ hlen hsz ⟨kb, ⟨u, rfl⟩, hk, hxk, hxo⟩ hO hlO
  obtain ⟨xk, xa, xb, xc, xd⟩ := x
  dsimp only at hk hxk hxo ⊢
  subst hxk
  obtain ⟨⟨⟨la, lb⟩, lc, ld⟩, ⟨ca, cb⟩, cc, cd⟩ := hxo
  dsimp only at la lb lc ld ca cb cc cd
  have HK := Ho.mk hk
  have HH := Ho.mk hH
  have FW := Ho.mk (hH.whole 5 rfl)
  have HA := Ho.mk (And.intro (And.intro la lb) (And.intro lc ld))
  have HC := Ho.mk (And.intro (And.intro ca cb) (And.intro cc cd))
  have HO := Ho.mk hO2
  clear hk hH la lb lc ld ca cb cc cd hO2
  dsimp only [frm]
  refine wpIn_block ?_
  have x0 := (HK.out).cell (i := 0) rfl
  have x1 := (HK.out).cell (i := 1) rfl
  have x2 := (HK.out).cell (i := 2) rfl
  have x3 := (HK.out).cell (i := 3) rfl
  have C1 := Ho.mk (P2.dCAdd W HA.out.1.1 HA.out.1.2 HA.out.2.1 (fng_lt' HA.out.2.2))
  gi_wp2_with fail
  refine ⟨by first | trivial | (intro h; cases h), (CallsIn.inRound l (callsIn_wide.2 C1.out)).mono ?_⟩
  rintro e v1 ⟨r1, s1, rfl, l1, c1, b1⟩
  have H1 := Ho.mk (And.intro l1 c1)
  have B1 := Ho.mk b1
  clear C1 l1 c1 b1
  clear x0 x1 x2 x3
  have x0 := (HK.out.bel B1.out).cell (i := 0) rfl
  have x1 := (HK.out.bel B1.out).cell (i := 1) rfl
  have x2 := (HK.out.bel B1.out).cell (i := 2) rfl
  have x3 := (HK.out.bel B1.out).cell (i := 3) rfl
  have C2 := Ho.mk (P2.dCAdd v1 HA.out.1.2 (fng_lt' HA.out.1.1) HA.out.2.2 HA.out.2.1)
  gi_wp2_with fail
  refine ⟨by first | trivial | (intro h; cases h), (CallsIn.inRound l (callsIn_wide.2 C2.out)).mono ?_⟩
  rintro e v2 ⟨r2, s2, rfl, l2, c2, b2⟩
  have H2 := Ho.mk (And.intro l2 c2)
  have B2 := Ho.mk b2
  clear C2 l2 c2 b2
  clear x0 x1 x2 x3
  have C3 := Ho.mk (P0.dHalf v2 H1.out.1.1 H1.out.1.2)
  gi_wp2_with fail
  refine ⟨by first | trivial | (intro h; cases h), (CallsIn.inRound l (callsIn_wide.2 C3.out)).mono ?_⟩
  rintro e v3 ⟨r3, s3, rfl, l3, c3, b3⟩
  have H3 := Ho.mk (And.intro l3 c3)
  have B3 := Ho.mk b3
  clear C3 l3 c3 b3
  have C4 := Ho.mk (P0.dHalf v3 H2.out.1.1 H2.out.1.2)
  gi_wp2_with fail
  refine ⟨by first | trivial | (intro h; cases h), (CallsIn.inRound l (callsIn_wide.2 C4.out)).mono ?_⟩
  rintro e v4 ⟨r4, s4, rfl, l4, c4, b4⟩
  have H4 := Ho.mk (And.intro l4 c4)
  have B4 := Ho.mk b4
  clear C4 l4 c4 b4
  have BB := Ho.mk (((B1.out.trans B2.out).trans B3.out).trans B4.out)
  replace HH := Ho.mk (HH.out.grow BB.out)
  have y0 := (HH.out.blk 1 rfl).cell (i := 0) rfl
  have y1 := (HH.out.blk 1 rfl).cell (i := 1) rfl
  obtain ⟨c5, x0, cl5, cc5⟩ := (HH.out.whole 2 rfl).at_ (i := pre.length + 1) (by simp; omega)
  obtain ⟨d5, x1, dl5, dc5⟩ := (HH.out.whole 3 rfl).at_ (i := pre.length + 1) (by simp; omega)
  rw [nthN_lt (by simp; omega)] at cc5 dc5
  simp only [List.getElem_map, List.getElem_range] at cc5 dc5
  have HW := Ho.mk (And.intro (And.intro cl5 dl5) (And.intro cc5 dc5))
  have hi1 : 0 ≤ (pre.length : Int) + 1 := by omega
  have hi2 : (pre.length : Int) + 1 < (m : Int) := by omega
  have C5 := Ho.mk (fun w => P2.dCTurn w H4.out.1.1 H4.out.1.2 HW.out.1.1 HW.out.1.2)
  clear cl5 dl5 cc5 dc5
  gi_wp2_with fail
  refine Yi.held_round (S := fun w' => Bel v4 w') (by kernel_rfl) (by intro o ho c e; simp at ho; rcases ho with rfl | rfl | rfl | rfl | rfl | rfl | rfl | rfl | rfl | rfl | rfl | rfl | rfl | rfl | rfl | rfl | rfl | rfl <;> cases e) (by rintro ⟨_, _, h⟩; exact h) (Bel.refl _).drew (fun hHeld => ?_)
  (try dsimp only at hHeld)
  refine rt (i := 0) hHeld ?_
  refine rt (i := 1) hHeld ?_
  refine rt (i := 2) hHeld ?_
  refine rl (i := 3) (v := ?_) hHeld (fun w' hSw => ?_) ?_
  rotate_left
  ·(have z0 := hSw.cell y0; go_simp; try (with_reducible rfl))
  refine rt (i := 4) hHeld ?_
  refine rt (i := 5) hHeld ?_
  refine rl (i := 6) (v := ?_) hHeld (fun w' hSw => ?_) ?_
  rotate_left
  ·(have z0 := hSw.cell x0; go_simp; try (with_reducible rfl))
  refine rt (i := 7) hHeld ?_
  refine rl (i := 8) (v := ?_) hHeld (fun w' hSw => ?_) ?_
  rotate_left
  ·(have z0 := hSw.cell y1; go_simp; try (with_reducible rfl))
  refine rt (i := 9) hHeld ?_
  refine rt (i := 10) hHeld ?_
  refine rl (i := 11) (v := ?_) hHeld (fun w' hSw => ?_) ?_
  rotate_left
  ·(have z0 := hSw.cell x1; go_simp; try (with_reducible rfl))
  try simp only [Act.put, List.setIfInBounds_toArray, List.set_cons_zero, List.set_cons_succ]
  refine rc (i := 12) (fun K hK => ?_)
  go_simp
  go_at_call 86
  (with_reducible refine (C5.out _).mono ?_); rintro e v5 ⟨r5, s5, rfl, l5, c5', b5⟩
  try go_wp2_with fail
  refine hK.out _ _ (Bel.trans hHeld b5) (fun hHeld => ?_)
  clear hK K
  refine rt (i := 13) hHeld ?_
  refine rt (i := 14) hHeld ?_
  refine rt (i := 15) hHeld ?_
  refine rt (i := 16) hHeld ?_
  refine rt (i := 17) hHeld ?_
  try simp only [Act.put, List.setIfInBounds_toArray, List.set_cons_zero, List.set_cons_succ]
  refine wpAnyH_done (by kernel_rfl) ?_ _
  have H5 := Ho.mk (And.intro l5 c5')
  have B5 := Ho.mk ((Bel.refl v4).drew.trans b5)
  replace HH := Ho.mk (HH.out.grow B5.out)
  clear y0 y1 x0 x1 l5 c5' C5 hHeld b5
  have C6 := Ho.mk (P2.dCAdd v5 H3.out.1.1 H3.out.1.2 H5.out.1.1 H5.out.1.2)
  gi_wp2_with fail
  refine ⟨by first | trivial | (intro h; cases h), (CallsIn.inRound l (callsIn_wide.2 C6.out)).mono ?_⟩
  rintro e v6 ⟨r6, s6, rfl, l6, c6, b6⟩
  have H6 := Ho.mk (And.intro l6 c6)
  replace HH := Ho.mk (HH.out.grow b6)
  replace BB := Ho.mk ((BB.out.trans B5.out).trans b6)
  clear C6 l6 c6 b6
  have y0 := (HH.out.blk 4 rfl).cell (i := 0) rfl
  have C7 := Ho.mk (dPut (n := X.length) (c := X.length) (k := pre.length + 1) v6 (HH.out.whole 5 rfl) (by have := HN2.out; omega) (upTo_len _ _ _) (by omega) H6.out.1.1 H6.out.1.2)
  gi_wp2_with fail
  refine ⟨by first | trivial | (intro h; cases h), (CallsIn.inRound l (callsIn_wide.2 C7.out)).mono ?_⟩
  rintro e v7 ⟨rfl, f7, G7⟩
  clear C7 y0
  gi_wp2_with fail
  have e8 := bin_law (wd := tabW p (pre.length + 1)) HA.out.1.1 HA.out.2.2 HC.out.1.1 HC.out.1.2 HC.out.2.1 HC.out.2.2 H1.out.2 H2.out.2 H3.out.2 H4.out.2 HW.out.2 H5.out.2 H6.out.2
  have e9 := pack_at (p := p) (m := m) (k := pre.length + 1) (Z := Z) (by omega)
  rw [← e9.1, ← e9.2, ← HPF.out] at e8
  have e2 := upTo_two pf (n := X.length) (k := pre.length + 1) (by have := HN2.out; omega) e8.1 e8.2
  have HF := HH.out.grW 5 rfl G7 f7
  simp only [List.set_cons_zero, List.set_cons_succ] at HF
  rw [e2] at HF
  have q5 := H.out.ltI 5 rfl
  have q6 : bo < w10.heap.size := q5
  refine ⟨yd_gr ((BB.out.gr bo).trans G7) FW.out (by simp) (fun q => by have := (HO.out _ q).1; omega), ?_, ?_, ?_⟩
  ·rw [List.length_append, List.length_singleton]; exact HF
  ·have := BB.out.size; have := G7.size; omega
  ·intro k hk
   have := HO.out k hk; have := BB.out.size; have := G7.size
   omega
 ·-- all have come
  rintro zs O W hsz hzs ⟨hH, hB, hO2⟩ hd
  have F := hH.whole 5 rfl
  have G5 := hH.geI 5 rfl
  have G6 : w.heap.size ≤ bo := G5
  have q5 := H.out.ltI 5 rfl
  have q6 : bo < w10.heap.size := q5
  rw [hzs, show 2 * (m - 1 + 1) = X.length by have := HN2.out; omega, upTo_all] at F
  have eR : (List.range X.length).map pf = rfftN p X := by unfold rfftN; rw [HPF.out, ZR.out, HP.out, HM.out]
  rw [eR] at F
  have HF := Ho.mk F
  have HBW := Ho.mk hH.bel
  clear F hH hO2
  go_wp2_with fail
  refine leaveAny hd ?_
  go_ret2
  exact ⟨bo, rfl, ⟨HF.out.out.choose, ⟨(World.putObj_heap_other (by omega)).trans HF.out.out.choose_spec.1.out⟩, HF.out.out.choose_spec.2⟩, G6, ⟨⟨HBW.out.out.os, HBW.out.out.tape, HBW.out.out.output, by have := HBW.out.size; simpa [World.putObj] using this, fun j hj => (World.putObj_heap_other (by have := HB.out.size; omega)).trans (HBW.out.out.block j hj)⟩⟩⟩
 ·rintro c pre O W hsz _ hI; exact hI.elim
end Y5
namespace Y6
open Ieee Go Go.RowKit Go.Proofs Go.Proofs.YtnbdoidccacdnaaGreatDoor Ow Dt Gp I0 U0 W0 S4 S6 P0 M0 M1 M3 W4 W5 V2 P4 Y3 Yh Y4 Y1 P8 Pc Y5
open Go.Proofs.YtnbdoidccacdnaaGreatDoor.V1 (NI St ni_same ni_loop St.refl St.of_bel blk_keep ni_blk put_st)
open Go.Proofs.YtnbdoidccacdnaaGreatDoor.C6 (leaveAny)
open Go.Proofs.YtnbdoidccacdnaaGreatDoor.Pg (In)
attribute [local go_sem ↓] Go.wp_at_zero Go.wp_at_succ
def okR (n : Nat) : Bool := decide (1 ≤ logI n)
def rfR (X : List Nat) : List Nat := if okR X.length then rfftN (Nat.log2 X.length) X else []
def errF (X : List Nat) : Int := if okR X.length then 0 else 2
theorem okR_pow {n : Nat} (h : okR n = true) : n = 2 ^ Nat.log2 n ∧ 1 ≤ Nat.log2 n ∧ n ≤ 1024 := by
 unfold okR at h
 have h := of_decide_eq_true h
 unfold logI at h
 split at h
 ·rename_i q; exact ⟨q.2.1.symm, by omega, q.2.2⟩
 ·omega
theorem logI_bad {n : Nat} (h : okR n = false) : logI n < 1 := by
 unfold okR at h
 have := of_decide_eq_false h
 omega
theorem log_7 {n : Nat} (h : n ≤ 128) (h2 : n = 2 ^ Nat.log2 n) : Nat.log2 n ≤ 7 := by
 apply Nat.le_of_not_lt; intro q
 have : 2 ^ 8 ≤ 2 ^ Nat.log2 n := Nat.pow_le_pow_right (by decide) q
 rw [← h2] at this; omega
def MakesRE (w : World) (Z : List Nat) (z : Int) (e : Ending) (w' : World) : Prop := ∃ A c, e = .returned (.tuple #[.slice A Z.length c, .int .i64 z]) ∧ RowF w' w.heap.size (.slice A Z.length c) Z ∧ Bel w w'
theorem dRfftBad {A : Option Addr} {c n : Nat} (w : World) (T : Tab w) (hn : n ≤ 128) (hb : okR n = false) :
  Calls Tryz.prog 38 #[.slice A n c] w fun e w' => e = .returned (.tuple #[.slice none 0 0, .int .i64 2]) ∧ Bel w w' := by
 have hl := logI_bad hb
 obtain ⟨z, hz⟩ : ∃ z, z = logI n := ⟨_, rfl⟩
 have C0 := dLogR (n := n) rfl w (by omega) T
 rw [← hz] at C0 hl
 have C0 := Ho.mk C0
 clear T hb hz
 go_enter Tryz.func38, Tryz.ntmps38
 go_wp2_with fail
 (with_reducible refine C0.out.mono ?_); rintro e w1 ⟨rfl, rfl⟩
 clear C0
 go_wp2
 go_ret2
 exact ⟨rfl, Bel.refl _⟩
theorem dRfft {A : Option Addr} {c : Nat} {X : List Nat} (w : World) (T : Tab w) (hx : In w (.slice A X.length c) X) (hl : X.length ≤ 128) :
  Calls Tryz.prog 38 #[.slice A X.length c] w (MakesRE w (rfR X) (errF X)) := by
 unfold rfR errF
 cases hb : okR X.length with
 | true =>
  obtain ⟨h1, h2, _⟩ := okR_pow hb
  refine (dRfftOk w T hx h1 h2 (log_7 hl h1)).mono ?_
  rintro e w' ⟨b, rfl, F, hB, g⟩
  have l := rfftN_len (Nat.log2 X.length) X
  rw [← h1] at l
  simp only [if_true]
  refine ⟨some ⟨b, 0, none⟩, X.length, by rw [l], ?_, g⟩
  exact RowF.of F.fz hB (by rw [l]; exact Nat.le_refl _) (by omega)
 | false =>
  refine (dRfftBad w T hl hb).mono ?_
  rintro e w' ⟨rfl, g⟩
  exact ⟨none, 0, rfl, RowF.nil _ _ _ _ (by decide), g⟩
end Y6
namespace Y7
open Ieee Go Go.RowKit Go.Proofs Go.Proofs.YtnbdoidccacdnaaGreatDoor Ow Dt Gp I0 U0 W0 S4 S6 P0 M0 M1 M3 W4 W5 V2 P4 Y3 Yh Y4 Y1 P8 Pc Y5 Y6
open Go.Proofs.YtnbdoidccacdnaaGreatDoor.V1 (NI St ni_same ni_loop St.refl St.of_bel blk_keep ni_blk put_st)
open Go.Proofs.YtnbdoidccacdnaaGreatDoor.C6 (leaveAny)
open Go.Proofs.YtnbdoidccacdnaaGreatDoor.Pg (In two_nil)
attribute [local go_sem ↓] Go.wp_at_zero Go.wp_at_succ
theorem resVB {fn : Func} {p q : Tmp} {tmps : Array Value} {w : World} {b : Nat} {v0 v1 : Value} {z : Bool} (hf : fn.results = #[.cell p 24, .tmp q]) (hp : tmps.getD p undef = .pointer (some ⟨b, 0, none⟩)) (hq : tmps.getD q undef = .bool z) (h : Blk w b 24 [v0, v1]) :
  (results fn tmps).run Tryz.prog w = .ok (.tuple #[.agg #[v0, v1], .bool z]) w := by
 have y0 := h.cell (i := 0) rfl
 have y1 := h.cell (i := 1) rfl
 have hp2 := hp
 have hq2 := hq
 rw [Array.getD_eq_getD_getElem?] at hp2 hq2
 simp [results, hf, hp2, hq2, go_sem, y0, y1]
def MakesVB (W0 : World) (X Y : List Nat) (z : Bool) (e : Ending) (w' : World) : Prop := ∃ A c B c', e = .returned (.tuple #[.agg #[.slice A X.length c, .slice B Y.length c'], .bool z]) ∧ Two w' W0.heap.size (.slice A X.length c) (.slice B Y.length c') X Y ∧ Bel W0 w'
def binsRe (X : List Nat) : List Nat := if okR X.length then M2.evenG opsN X ++ [nthN (M2.oddG opsN X) 0] else []
def binsIm (X : List Nat) : List Nat := if okR X.length then (M2.oddG opsN X).set 0 0 ++ [0] else []
theorem dBinsBad {A : Option Addr} {c n : Nat} (w : World) (T : Tab w) (hn : n ≤ 128) (hb : okR n = false) :
  Calls Tryz.prog 40 #[.slice A n c] w (MakesVB w [] [] false) := by
 have hl := logI_bad hb
 obtain ⟨z, hz⟩ : ∃ z, z = logI n := ⟨_, rfl⟩
 have C0 := dLogR (n := n) rfl (w.alloc (.cells #[.slice none 0 0, .slice none 0 0] 24)) (by omega) (T.bel ((Bel.refl w).alloc _))
 rw [← hz] at C0 hl
 have C0 := Ho.mk C0
 have H := Ho.mk ((Hp.nil (Bel.refl w)).box [.slice none 0 0, .slice none 0 0] 24)
 clear T hb hz
 go_enter Tryz.func40, Tryz.ntmps40
 go_wp2_with fail
 generalize w.alloc (.cells #[.slice none 0 0, .slice none 0 0] 24) = w0 at *
 (with_reducible refine C0.out.mono ?_); rintro e w1 ⟨rfl, rfl⟩
 have y0 := (H.out.blk 0 rfl).cell (i := 0) rfl
 have y1 := (H.out.blk 0 rfl).cell (i := 1) rfl
 have z0 := (H.out.blk 0 rfl).free 0
 have z1 := (H.out.blk 0 rfl).free 1
 clear C0
 go_wp2_with fail
 have H2 := (H.out.set 0 rfl 0 (.slice none 0 0))
 have H3 := (H2.set 0 rfl 1 (.slice none 0 0))
 refine bodyPost_ret (resVB (fn := Tryz.f40) rfl rfl rfl (H3.blk 0 rfl)) rfl ⟨none, 0, none, 0, rfl, two_nil _ _, H3.bel⟩
theorem dBinsOk {A : Option Addr} {c m : Nat} {X : List Nat} (w : World) (T : Tab w) (hx : In w (.slice A X.length c) X) (hn : X.length = 2 * m) (hm : 1 ≤ m) (hl : X.length ≤ 128) (hok : okR X.length = true) :
  Calls Tryz.prog 40 #[.slice A X.length c] w (MakesVB w (M2.evenG opsN X ++ [nthN (M2.oddG opsN X) 0]) ((M2.oddG opsN X).set 0 0 ++ [0]) true) := by
 have hl1 : 1 ≤ logI X.length := of_decide_eq_true hok
 obtain ⟨z, hz⟩ : ∃ z, z = logI X.length := ⟨_, rfl⟩
 have C0 := dLogR (n := X.length) rfl (w.alloc (.cells #[.slice none 0 0, .slice none 0 0] 24)) (by omega) (T.bel ((Bel.refl w).alloc _))
 rw [← hz] at C0 hl1
 have C0 := Ho.mk C0
 have B0 := Ho.mk ((Bel.refl w).alloc (.cells #[.slice none 0 0, .slice none 0 0] 24))
 have KR := Ho.mk (Blk.new w [.slice none 0 0, .slice none 0 0] 24)
 have lE : (M2.evenG opsN X).length = m := by rw [M2.evenG_len]; omega
 have lO : (M2.oddG opsN X).length = m := by rw [M2.oddG_len]; omega
 have HX := Ho.mk hx
 obtain ⟨Ze, hZe⟩ : ∃ Ze, Ze = M2.evenG opsN X := ⟨_, rfl⟩
 obtain ⟨Zo, hZo⟩ : ∃ Zo, Zo = M2.oddG opsN X := ⟨_, rfl⟩
 rw [← hZe] at lE
 rw [← hZo] at lO
 rw [← hZe, ← hZo]
 have HZ := Ho.mk (And.intro hZe hZo)
 have LE := Ho.mk lE
 have LO := Ho.mk lO
 have hm64 : m ≤ 64 := by omega
 have HN := Ho.mk hn
 clear T hok hz hx hZe hZo lE lO hn
 go_enter Tryz.func40, Tryz.ntmps40
 go_wp2_with fail
 have hS0 : (w.alloc (.cells #[.slice none 0 0, .slice none 0 0] 24)).heap.size = w.heap.size + 1 := World.size_alloc _ _
 generalize w.alloc (.cells #[.slice none 0 0, .slice none 0 0] 24) = w0 at *
 (with_reducible refine C0.out.mono ?_); rintro e w1 ⟨rfl, rfl⟩
 have C1 := dEven w0 (HX.out.bel B0.out) (by omega)
 rw [← HZ.out.1] at C1
 have C1 := Ho.mk C1
 clear C0
 go_wp2_with fail
 (with_reducible refine C1.out.mono ?_); rintro e w1 ⟨A1, c1, rfl, g1, b1⟩
 rw [LE.out] at g1 ⊢
 have C2 := dOdd w1 ((HX.out.bel B0.out).bel b1) (by omega)
 rw [← HZ.out.2] at C2
 have C2 := Ho.mk C2
 have G1 := Ho.mk g1
 have B1 := Ho.mk b1
 clear C1 g1 b1
 go_wp2_with fail
 (with_reducible refine C2.out.mono ?_); rintro e w2 ⟨A2, c2, rfl, g2, b2⟩
 rw [LO.out] at g2 ⊢
 obtain ⟨gO, c2', e2, _⟩ := g2.1.form (by rw [LO.out]; exact hm)
 rw [LO.out] at e2
 cases e2
 have gO1 := g2.2 gO rfl
 have gO2 := g2.1.lt (g := gO) rfl
 obtain ⟨rx, yx, lx, cx⟩ := g2.1.fz.at_ (i := 0) (by rw [LO.out]; exact hm)
 have O1 := Ho.mk (G1.out.1.bel b2)
 have O2 := Ho.mk g2.1
 have BK1 := Ho.mk (fun g (hg : (Value.slice A1 m c1).ownBlock = some g) => And.intro (G1.out.2 g hg) (G1.out.1.lt hg))
 have RX := Ho.mk (And.intro lx cx)
 have B2 := Ho.mk (B1.out.trans b2)
 have KR := Ho.mk (KR.out.bel B2.out)
 have hS2 := B2.out.size
 have hS1 := B1.out.size
 clear C2 g2 b2 lx cx G1
 go_upto_region 4 with fail
 have hm0 : 0 < m := hm
 have z9 := (Blk.new w2 [.float .f64 rx] 50).cell (i := 0) rfl
 have hsA : (w2.alloc (.cells #[.float .f64 rx] 50)).heap.size = w2.heap.size + 1 := World.size_alloc _ _
 have BA := Ho.mk ((Bel.refl w2).alloc (.cells #[.float .f64 rx] 50))
 have OA := Ho.mk (O1.out.bel BA.out)
 have hlE : Ze.length ≤ 100000 := by rw [LE.out]; omega
 obtain ⟨Z1, hZ1⟩ : ∃ Z1, Z1 = Ze ++ [cn rx] := ⟨_, rfl⟩
 have HZ1 := Ho.mk hZ1
 have L1 := Ho.mk (show Z1.length = m + 1 by rw [hZ1, List.length_append, LE.out]; rfl)
 clear hZ1
 go_upto_region 5 with (at_builtin; refine wpList_appA rfl _ _ rfl OA.out rfl rfl z9 RX.out.1 hlE HZ1.out ?_; intro tA tc w3 ho ha; rw [L1.out] at ho ha ⊢; have HO1 := Ho.mk ho; have HA1 := Ho.mk ha; have n1 : (Value.slice A1 m c1).ownBlock ≠ some gO := fun e => (by have := (BK1.out gO e).2; omega); have O3 := Ho.mk (HA1.out.og (O2.out.bel BA.out) (fun g hg => by cases hg; exact n1)); obtain ⟨_, y3, _, _⟩ := O3.out.fz.at_ (i := 0) (by rw [LO.out]; exact hm); have x3 := O3.out.fz.free 0; clear z9 ho ha yx)
 have KR3 := Ho.mk (HA1.out.blk (KR.out.bel BA.out) (fun e => by have := (BK1.out _ e).1; omega))
 have B3 := Ho.mk (HA1.out.bel ((B0.out.trans B2.out).trans BA.out) (fun g hg => by have := (BK1.out g hg).1; omega))
 have BK3 := Ho.mk (fun g (hg : (Value.slice tA (m + 1) tc).ownBlock = some g) => show w0.heap.size ≤ g ∧ g ≠ gO from by
  rcases HA1.out.own with q | q
  ·rw [q] at hg
   exact ⟨(BK1.out g hg).1, fun e => n1 (by rw [hg, e])⟩
  ·rw [q] at hg
   cases hg
   exact ⟨by omega, by omega⟩)
 have hS3 := B3.out.size
 have hS4 := HA1.out.size
 have O4 := Ho.mk (O3.out.setF 0 (r := 0) (x := 0) (by decide) cn_zero)
 have O5 := Ho.mk (HO1.out.far (p := ⟨gO, 0, none⟩) (fun e => (BK3.out gO e).2 rfl) (.float .f64 0))
 have KR4 := Ho.mk (KR3.out.far (p := ⟨gO, 0, none⟩) (by dsimp only; omega) (.float .f64 0))
 have B4 := Ho.mk (show Bel w (w3.setCell ⟨gO, 0, none⟩ (.float .f64 0)) from ⟨B3.out.out.setCell (p := ⟨gO, 0, none⟩) (by dsimp only; omega) _⟩)
 have hS5 : w3.heap.size = (w3.setCell ⟨gO, 0, none⟩ (.float .f64 0)).heap.size := by simp [World.setCell]
 clear y3 x3 KR3 B3 O3 HO1 OA O1 O2 KR
 generalize w3.setCell ⟨gO, 0, none⟩ (.float .f64 0) = w4 at *
 have nO : gO ≠ w.heap.size := by omega
 have z9 := (Blk.new w4 [.float .f64 0] 50).cell (i := 0) rfl
 have BA4 := Ho.mk ((Bel.refl w4).alloc (.cells #[.float .f64 0] 50))
 have hsA4 : (w4.alloc (.cells #[.float .f64 0] 50)).heap.size = w4.heap.size + 1 := World.size_alloc _ _
 have OA := Ho.mk (O4.out.bel BA4.out)
 have hlO : (Zo.set 0 0).length ≤ 100000 := by rw [List.length_set, LO.out]; omega
 obtain ⟨Z2, hZ2⟩ : ∃ Z2, Z2 = Zo.set 0 0 ++ [cn 0] := ⟨_, rfl⟩
 have HZ2 := Ho.mk hZ2
 have L2 := Ho.mk (show Z2.length = m + 1 by rw [hZ2, List.length_append, List.length_set, LO.out]; rfl)
 clear hZ2
 go_wp2_with (at_builtin; refine wpList_appA rfl _ _ rfl OA.out rfl rfl z9 (by decide) hlO HZ2.out ?_; intro sA sc w5 ho ha; rw [L2.out] at ho ha ⊢; have HO2 := Ho.mk ho; have HA2 := Ho.mk ha; have KR5 := Ho.mk (HA2.out.blk (KR4.out.bel BA4.out) (fun e => nO (Option.some.inj e))); have y0 := KR5.out.cell (i := 0) rfl; have y1 := KR5.out.cell (i := 1) rfl; have x0 := KR5.out.free 0; have x1 := KR5.out.free 1; clear z9 ho ha)
 have O6 := HA2.out.og (O5.out.bel BA4.out) (fun g hg e => by cases e; exact (BK3.out _ hg).2 rfl)
 have gw : w.heap.size ≤ gO := by omega
 have B5 := HA2.out.bel (B4.out.trans BA4.out) (fun g hg => by cases hg; exact gw)
 have KF := (KR5.out.set 0 (.slice tA (m + 1) tc)).set 1 (.slice sA (m + 1) sc)
 have own2 : ∀ g, (Value.slice sA (m + 1) sc).ownBlock = some g → w.heap.size + 1 ≤ g ∧ g ≠ w.heap.size ∧ ((Value.slice tA (m + 1) tc).ownBlock ≠ some g) := fun g hg => by
  rcases HA2.out.own with q | q
  ·rw [q] at hg; cases hg
   exact ⟨show w.heap.size + 1 ≤ gO by omega, show gO ≠ w.heap.size by omega, fun e => (BK3.out _ e).2 rfl⟩
  ·rw [q] at hg; cases hg
   have l4 := B4.out.size
   have lo := fun g hg => O5.out.lt (g := g) hg
   exact ⟨by omega, by omega, fun e => by have := lo _ e; omega⟩
 have own1 : ∀ g, (Value.slice tA (m + 1) tc).ownBlock = some g → w.heap.size + 1 ≤ g := fun g hg => by have := (BK3.out g hg).1; omega
 have q1 := (O6.far (p := ⟨w.heap.size, 0, none⟩) (fun e => by have := own1 _ e; dsimp only at this; omega) (.slice tA (m + 1) tc)).far (p := ⟨w.heap.size, 1, none⟩) (fun e => by have := own1 _ e; dsimp only at this; omega) (.slice sA (m + 1) sc)
 have q2 := (HO2.out.far (p := ⟨w.heap.size, 0, none⟩) (fun e => by have := (own2 _ e).1; dsimp only at this; omega) (.slice tA (m + 1) tc)).far (p := ⟨w.heap.size, 1, none⟩) (fun e => by have := (own2 _ e).1; dsimp only at this; omega) (.slice sA (m + 1) sc)
 have BF : Bel w ((w5.setCell ⟨w.heap.size, 0, none⟩ (.slice tA (m + 1) tc)).setCell ⟨w.heap.size, 1, none⟩ (.slice sA (m + 1) sc)) := ⟨(B5.out.setCell (p := ⟨w.heap.size, 0, none⟩) (Nat.le_refl _) _).setCell (p := ⟨w.heap.size, 1, none⟩) (Nat.le_refl _) _⟩
 have eZ1 : Ze ++ [nthN Zo 0] = Z1 := by rw [HZ1.out, RX.out.2]
 have eZ2 : Zo.set 0 0 ++ [0] = Z2 := by rw [HZ2.out, cn_zero]
 rw [eZ1, eZ2]
 refine bodyPost_ret (resVB (fn := Tryz.f40) rfl rfl rfl KF) rfl ⟨tA, tc, sA, sc, by rw [L1.out, L2.out], ?_, BF⟩
 rw [L1.out, L2.out]
 refine ⟨q1.rowF fun g hg => by have := own1 g hg; omega, q2.rowF fun g hg => by have := (own2 g hg).1; omega, ?_⟩
 intro b b' o o' n n' d d' e1 e2 _ _ hbb
 have h2 := own2 b' (by rw [e2]; rfl)
 exact h2.2.2 (by rw [e1]; show some b = some b'; rw [hbb])
theorem dBins {A : Option Addr} {c : Nat} {X : List Nat} (w : World) (T : Tab w) (hx : In w (.slice A X.length c) X) (hl : X.length ≤ 128) :
  Calls Tryz.prog 40 #[.slice A X.length c] w (MakesVB w (binsRe X) (binsIm X) (okR X.length)) := by
 unfold binsRe binsIm
 cases hb : okR X.length with
 | true =>
  obtain ⟨h1, h2, _⟩ := okR_pow hb
  have := two_half h2
  exact dBinsOk (m := 2 ^ (Nat.log2 X.length - 1)) w T hx (by rw [← this]; exact h1) (Nat.two_pow_pos _) hl hb
 | false => exact dBinsBad w T hl hb
end Y7
namespace Ph
open Ieee Go Go.RowKit Go.Proofs Go.Proofs.YtnbdoidccacdnaaGreatDoor Ow Dt Gp I0 U0 W0 S4 S6 P0 M0 M1 M2 M3 P4 P5 P6 P8 Pa W4 W5 W1 W2 Pc Pe Pg
attribute [local go_sem ↓] Go.wp_at_zero Go.wp_at_succ
def ifR (X Y : List Nat) : List Nat × List Nat := if okP X.length Y.length then invR X Y else ([], [])
end Ph
namespace Pj
open Ieee Go Go.RowKit Go.Proofs Go.Proofs.YtnbdoidccacdnaaGreatDoor Ow Dt Gp I0 U0 W0 S4 S6 P0 M0 M1 M2 M3 P4 P5 P6 P8 Pa W4 W5 W1 W2 Pc Pe Pg Ph
attribute [local go_sem ↓] Go.wp_at_zero Go.wp_at_succ
theorem Two.grow {w : World} {B c c' : Nat} {A A' : Option Addr} {X Y : List Nat} (h1 : RowF w B (.slice A X.length c) X) (h2 : RowF w B (.slice A' Y.length c') Y) (ne : ∀ b b' o o' n n' d d', (Value.slice A X.length c) = .slice (some ⟨b, o, none⟩) n d → (Value.slice A' Y.length c') = .slice (some ⟨b', o', none⟩) n' d' → 0 < X.length → 0 < Y.length → b ≠ b') :
  Two w B (.slice A X.length c) (.slice A' Y.length c') X Y := ⟨h1, h2, ne⟩
end Pj
namespace Pk
open Ieee Go Go.RowKit Go.Proofs Go.Proofs.YtnbdoidccacdnaaGreatDoor Ow Dt Gp I0 U0 W0 S4 S6 P0 M0 M1 M2 M3 P4 P5 P6 P8 Pa W4 W5 W1 W2 Pc Pe Pg G1 G3 Ph Pj
attribute [local go_sem ↓] Go.wp_at_zero Go.wp_at_succ
theorem take_succ_eq {X Y : List Nat} {i : Nat} (h : X.take i = Y.take i) (hx : i < X.length) (hy : i < Y.length) (e : nthN X i = nthN Y i) : X.take (i + 1) = Y.take (i + 1) := by
 rw [List.take_add_one, List.take_add_one, h, List.getElem?_eq_getElem hx, List.getElem?_eq_getElem hy]
 rw [nthN_lt hx, nthN_lt hy] at e
 rw [e]
theorem nth_ne {X Y : List Nat} {i : Nat} (h : nthN X i ≠ nthN Y i) : X ≠ Y := fun e => h (by rw [e])
theorem dSameRow {A B : Option Addr} {n m c c' : Nat} {X Y : List Nat} (W0 : World) (hx : Fr W0 A X) (hy : Fr W0 B Y) (hn : X.length = n) (hm : Y.length = m) (hl : n ≤ 100000) (hl' : m ≤ 100000) :
  Calls Tryz.prog 44 #[.slice A n c, .slice B m c'] W0 (fun e w' => e = .returned (.bool (decide (X = Y))) ∧ Bel W0 w') := by
 have FX := Ho.mk hx
 have FY := Ho.mk hy
 have HN := Ho.mk hn
 have HM := Ho.mk hm
 clear hx hy hn hm
 by_cases hnm : n = m
 ·subst hnm
  go_enter Tryz.func44, Tryz.ntmps44
  go_wp2_with fail
  go_loopw [5] (fun v wr => ∃ (i : Nat), i ≤ n ∧ v = .int .i64 i ∧ Ho (X.take i = Y.take i) ∧ Ho (Bel W0 wr)) (fun v _ => n - (intOf v).toNat)
  case atStart => exact ⟨0, Nat.zero_le _, rfl, ⟨by simp⟩, ⟨Bel.refl _⟩⟩
  case round =>
   obtain ⟨i, hi, rfl, HT, HW⟩ := hrel
   rcases Nat.lt_or_ge i n with hlt | hge
   ·obtain ⟨a1, r1, rfl, y1, l1, c1⟩ := FX.out.at_ (i := i) (by rw [HN.out]; exact hlt)
    obtain ⟨a2, r2, rfl, y2, l2, c2⟩ := FY.out.at_ (i := i) (by rw [HM.out]; exact hlt)
    have y1 := HW.out.cell y1
    have y2 := HW.out.cell y2
    have HC := Ho.mk (And.intro c1 c2)
    have HAL := Ho.mk (alike_cn l1 l2)
    clear c1 c2 l1 l2
    by_cases hc : cn r1 = cn r2
    ·have RS : Ho (∀ w, Calls Tryz.prog 93 #[.float .f64 r1, .float .f64 r2] w (Quiet w (.bool true))) := ⟨fun w => by have h := rsame_calls r1 r2 w; rw [HAL.out, decide_eq_true hc] at h; exact h⟩
     have HCC := Ho.mk hc
     clear hc
     go_upto_region 6 with fail
     refine wp_region_held_drew (S := fun w' => Bel wr w') (by kernel_rfl) (Bel.refl _).drew (fun hHeld => ?_)
     (try dsimp only at hHeld)
     generalize wr.drew = wd at *
     refine rt (i := 0) hHeld ?_
     refine rt (i := 1) hHeld ?_
     refine rt (i := 2) hHeld ?_
     refine rl (i := 3) (v := ?_) hHeld (fun w hSw => ?_) ?_
     rotate_left
     ·(have z0 := hSw.cell y1; have z1 := hSw.cell y2; go_simp; try (with_reducible rfl))
     refine rt (i := 4) hHeld ?_
     refine rt (i := 5) hHeld ?_
     refine rt (i := 6) hHeld ?_
     refine rl (i := 7) (v := ?_) hHeld (fun w hSw => ?_) ?_
     rotate_left
     ·(have z0 := hSw.cell y1; have z1 := hSw.cell y2; go_simp; try (with_reducible rfl))
     try simp only [Act.put, List.setIfInBounds_toArray, List.set_cons_zero, List.set_cons_succ]
     refine rc (i := 8) (fun K hK => ?_)
     go_simp
     go_at_call 93
     (with_reducible refine (RS.out _).mono ?_); rintro e v1 ⟨rfl, hz⟩
     have bv1 : Bel wd v1 := by rw [hz]; exact Bel.refl _
     clear hz
     try go_wp2_with fail
     refine hK.out _ _ (Bel.trans hHeld bv1) (fun hHeld => ?_)
     clear hK K
     clear bv1
     refine rt (i := 9) hHeld ?_
     try simp only [Act.put, List.setIfInBounds_toArray, List.set_cons_zero, List.set_cons_succ]
     refine wpAnyH_done (by kernel_rfl) ?_ _
     have HB := Ho.mk (HW.out.trans hHeld)
     clear hHeld
     go_wp2
     go_roundw
     case rel =>
      exact ⟨i + 1, by omega, by simp, ⟨take_succ_eq HT.out (by rw [HN.out]; exact hlt) (by rw [HM.out]; exact hlt) (by rw [← HC.out.1, ← HC.out.2]; exact HCC.out)⟩, HB⟩
     case measure => simp [intOf]; omega
    ·have RS : Ho (∀ w, Calls Tryz.prog 93 #[.float .f64 r1, .float .f64 r2] w (Quiet w (.bool false))) := ⟨fun w => by have h := rsame_calls r1 r2 w; rw [HAL.out, decide_eq_false hc] at h; exact h⟩
     have HCC := Ho.mk hc
     clear hc
     go_upto_region 6 with fail
     refine wp_region_held_drew (S := fun w' => Bel wr w') (by kernel_rfl) (Bel.refl _).drew (fun hHeld => ?_)
     (try dsimp only at hHeld)
     generalize wr.drew = wd at *
     refine rt (i := 0) hHeld ?_
     refine rt (i := 1) hHeld ?_
     refine rt (i := 2) hHeld ?_
     refine rl (i := 3) (v := ?_) hHeld (fun w hSw => ?_) ?_
     rotate_left
     ·(have z0 := hSw.cell y1; have z1 := hSw.cell y2; go_simp; try (with_reducible rfl))
     refine rt (i := 4) hHeld ?_
     refine rt (i := 5) hHeld ?_
     refine rt (i := 6) hHeld ?_
     refine rl (i := 7) (v := ?_) hHeld (fun w hSw => ?_) ?_
     rotate_left
     ·(have z0 := hSw.cell y1; have z1 := hSw.cell y2; go_simp; try (with_reducible rfl))
     try simp only [Act.put, List.setIfInBounds_toArray, List.set_cons_zero, List.set_cons_succ]
     refine rc (i := 8) (fun K hK => ?_)
     go_simp
     go_at_call 93
     (with_reducible refine (RS.out _).mono ?_); rintro e v1 ⟨rfl, hz⟩
     have bv1 : Bel wd v1 := by rw [hz]; exact Bel.refl _
     clear hz
     try go_wp2_with fail
     refine hK.out _ _ (Bel.trans hHeld bv1) (fun hHeld => ?_)
     clear hK K
     clear bv1
     refine rt (i := 9) hHeld ?_
     try simp only [Act.put, List.setIfInBounds_toArray, List.set_cons_zero, List.set_cons_succ]
     refine wpAnyH_done (by kernel_rfl) ?_ _
     have HB := Ho.mk (HW.out.trans hHeld)
     clear hHeld
     go_wp2
     go_ret
     exact ⟨by rw [decide_eq_false (nth_ne (i := i) (by rw [← HC.out.1, ← HC.out.2]; exact HCC.out))]; rfl, HB.out⟩
   ·obtain rfl : i = n := by omega
    go_wp2
    go_ret
    refine ⟨?_, HW.out⟩
    have := HT.out
    rw [List.take_of_length_le (by rw [HN.out]; exact Nat.le_refl _), List.take_of_length_le (by rw [HM.out]; exact Nat.le_refl _)] at this
    rw [decide_eq_true this]; rfl
 ·have hne : ¬ (n : Int) = (m : Int) := by omega
  go_enter Tryz.func44, Tryz.ntmps44
  go_wp2
  all_goals first
   | (exfalso; omega)
   | (go_ret; exact ⟨by rw [decide_eq_false (fun e => hnm (by rw [← HN.out, ← HM.out, e]))]; rfl, Bel.refl _⟩)
theorem dSameRowI {u v : Value} {X Y : List Nat} (w : World) (hx : In w u X) (hy : In w v Y) (hl : X.length ≤ 100000) (hl' : Y.length ≤ 100000) :
  Calls Tryz.prog 44 #[u, v] w (fun e w' => e = .returned (.bool (decide (X = Y))) ∧ Bel w w') := by
 obtain ⟨A, c, rfl, _, _, h1, _⟩ := hx.out
 obtain ⟨B, d, rfl, _, _, h2, _⟩ := hy.out
 exact dSameRow w h1 h2 rfl rfl hl hl'
theorem dSame {A1 B1 A2 B2 : Option Addr} {c1 d1 c2 d2 : Nat} {X1 Y1 X2 Y2 : List Nat} (w : World) (hx : In w (.slice A1 X1.length c1) X1) (hy : In w (.slice B1 Y1.length d1) Y1) (hx2 : In w (.slice A2 X2.length c2) X2) (hy2 : In w (.slice B2 Y2.length d2) Y2)
  (l1 : X1.length ≤ 100000) (l2 : Y1.length ≤ 100000) (l3 : X2.length ≤ 100000) (l4 : Y2.length ≤ 100000) :
  Calls Tryz.prog 21 #[.agg #[.slice A1 X1.length c1, .slice B1 Y1.length d1], .agg #[.slice A2 X2.length c2, .slice B2 Y2.length d2]] w (fun e w' => e = .returned (.bool (decide (X1 = X2 ∧ Y1 = Y2))) ∧ Bel w w') := by
 have S1 := Ho.mk (fun w' (g : Bel w w') => dSameRowI w' (hx.bel g) (hx2.bel g) l1 l3)
 have S2 := Ho.mk (fun w' (g : Bel w w') => dSameRowI w' (hy.bel g) (hy2.bel g) l2 l4)
 have KV := Ho.mk ((Blk.new w [.slice A1 X1.length c1, .slice B1 Y1.length d1] 24).old (.cells #[.slice A2 X2.length c2, .slice B2 Y2.length d2] 24))
 have KU := Ho.mk (Blk.new (w.alloc (.cells #[.slice A1 X1.length c1, .slice B1 Y1.length d1] 24)) [.slice A2 X2.length c2, .slice B2 Y2.length d2] 24)
 have g0 := Ho.mk (((Bel.refl w).alloc (.cells #[.slice A1 X1.length c1, .slice B1 Y1.length d1] 24)).alloc (.cells #[.slice A2 X2.length c2, .slice B2 Y2.length d2] 24))
 rw [World.size_alloc] at KU
 clear hx hy hx2 hy2
 go_enter Tryz.func21, Tryz.ntmps21
 go_upto_region 1 with fail
 generalize (w.alloc (.cells #[.slice A1 X1.length c1, .slice B1 Y1.length d1] 24)).alloc (.cells #[.slice A2 X2.length c2, .slice B2 Y2.length d2] 24) = W at *
 have y0 := KV.out.cell (i := 0) rfl
 have y1 := KV.out.cell (i := 1) rfl
 have y2 := KU.out.cell (i := 0) rfl
 have y3 := KU.out.cell (i := 1) rfl
 by_cases e1 : X1 = X2
 ·have d1' : decide (X1 = X2 ∧ Y1 = Y2) = decide (Y1 = Y2) := by simp [e1]
  have d2' : decide (X1 = X2) = true := decide_eq_true e1
  have D1 := Ho.mk d1'
  rw [d2'] at S1
  clear d1' d2' e1
  go_wp2_with (first | (go_at_call 44; first | ((with_reducible refine (S1.out _ g0.out).mono ?_); rintro e w1 ⟨rfl, b1⟩; have y0 := b1.cell y0; have y1 := b1.cell y1; have y2 := b1.cell y2; have y3 := b1.cell y3) | ((with_reducible refine (S2.out _ (g0.out.trans b1)).mono ?_); rintro e w2 ⟨rfl, b2⟩)) | fail)
  go_ret
  exact ⟨by rw [D1.out]; rfl, (g0.out.trans b1).trans b2⟩
 ·have d1' : decide (X1 = X2 ∧ Y1 = Y2) = false := by simp [e1]
  have d2' : decide (X1 = X2) = false := decide_eq_false e1
  have D1 := Ho.mk d1'
  rw [d2'] at S1
  clear d1' d2' e1
  go_wp2_with (go_at_call 44; (with_reducible refine (S1.out _ g0.out).mono ?_); rintro e w1 ⟨rfl, b1⟩)
  go_ret
  exact ⟨by rw [D1.out]; rfl, g0.out.trans b1⟩
end Pk
namespace Pq
open Ieee Go Go.RowKit Go.Proofs Go.Proofs.YtnbdoidccacdnaaGreatDoor Ow Gp Gq Gr G1 G3 I0 W0 W1 W2 P0 Po
attribute [local go_sem ↓] Go.wp_at_zero Go.wp_at_succ
theorem ord_c {r c : Nat} {v : Int} (h : r < 2 * sgnW) (hc : c < 2 * sgnW) (fc : frung c ≤ infR) (hv : V c = v) (hs : (FloatKind.f64.format.order r c).isSome = true) : frung r ≤ infR ∧ FloatKind.f64.format.order r c = some (compare (V r) v) := by
 by_cases q : infR < frung r
 ·rw [ord_no h hc (.inl q)] at hs; cases hs
 ·rw [← hv]; exact ⟨by omega, ord h hc (by omega) fc⟩
theorem ge_c {r c : Nat} {v : Int} (h : r < 2 * sgnW) (hc : c < 2 * sgnW) (fc : frung c ≤ infR) (hv : V c = v) (e : (FloatKind.f64.format.order r c == some .gt || FloatKind.f64.format.order r c == some .eq) = true) : frung r ≤ infR ∧ v ≤ V r := by
 obtain ⟨a, b⟩ := ord_c h hc fc hv (by cases q : FloatKind.f64.format.order r c <;> simp_all)
 refine ⟨a, ?_⟩
 rw [b, cmp_int] at e
 split at e
 ·simp at e
 ·omega
theorem le_c {r c : Nat} {v : Int} (h : r < 2 * sgnW) (hc : c < 2 * sgnW) (fc : frung c ≤ infR) (hv : V c = v) (e : (FloatKind.f64.format.order r c == some .lt || FloatKind.f64.format.order r c == some .eq) = true) : frung r ≤ infR ∧ V r ≤ v := by
 obtain ⟨a, b⟩ := ord_c h hc fc hv (by cases q : FloatKind.f64.format.order r c <;> simp_all)
 refine ⟨a, ?_⟩
 rw [b, cmp_int] at e
 split at e
 ·omega
 ·split at e
  ·omega
  ·simp at e
theorem V_c1 : V 3256102530588868608 = (mag (P2 723) : Int) := by decide +kernel
theorem V_c2 : V 5958262307011166208 = (mag (P2 1323) : Int) := by decide +kernel
theorem V_c3 : V 12479474567443644416 = -(mag (P2 723) : Int) := by decide +kernel
theorem V_c4 : V 15181634343865942016 = -(mag (P2 1323) : Int) := by decide +kernel
theorem pass0 {r : Nat} (h : r < 2 * sgnW) (e : (FloatKind.f64.format.order r 0 == some .eq) = true) : Up (cn r) 7 := by
 obtain ⟨a, b⟩ := ord_c (c := 0) (v := 0) h (by decide) (by decide) (by decide) (by cases q : FloatKind.f64.format.order r 0 <;> simp_all)
 refine up_mid h a (.inl ?_)
 rw [b, cmp_int] at e
 split at e
 ·simp at e
 ·split at e
  ·assumption
  ·simp at e
theorem pass1 {r : Nat} (h : r < 2 * sgnW) (e1 : (FloatKind.f64.format.order r 3256102530588868608 == some .gt || FloatKind.f64.format.order r 3256102530588868608 == some .eq) = true) (e2 : (FloatKind.f64.format.order r 5958262307011166208 == some .lt || FloatKind.f64.format.order r 5958262307011166208 == some .eq) = true) : Up (cn r) 7 := by
 obtain ⟨a, b⟩ := ge_c h (by decide) (by decide) V_c1 e1
 obtain ⟨_, b2⟩ := le_c h (by decide) (by decide) V_c2 e2
 exact up_mid h a (.inr ⟨by omega, by omega⟩)
theorem pass2 {r : Nat} (h : r < 2 * sgnW) (e1 : (FloatKind.f64.format.order r 12479474567443644416 == some .lt || FloatKind.f64.format.order r 12479474567443644416 == some .eq) = true) (e2 : (FloatKind.f64.format.order r 15181634343865942016 == some .gt || FloatKind.f64.format.order r 15181634343865942016 == some .eq) = true) : Up (cn r) 7 := by
 obtain ⟨a, b⟩ := le_c h (by decide) (by decide) V_c3 e1
 obtain ⟨_, b2⟩ := ge_c h (by decide) (by decide) V_c4 e2
 exact up_mid h a (.inr ⟨by omega, by omega⟩)
theorem dMid {A : Option Addr} {n c : Nat} {X : List Nat} (W0 : World) (hx : Fr W0 A X) (hn : X.length = n) (hl : n ≤ 100000) :
  Calls Tryz.prog 36 #[.slice A n c] W0 (fun e w' => ∃ z, e = .returned (.bool z) ∧ Bel W0 w' ∧ (z = true → ∀ i, i < n → Up (nthN X i) 7)) := by
 have FX := Ho.mk hx
 have HN := Ho.mk hn
 clear hx hn
 go_enter Tryz.func36, Tryz.ntmps36
 go_wp2_with fail
 go_loopw [3] (fun v wr => ∃ (i : Nat), i ≤ n ∧ v = .int .i64 i ∧ Ho (∀ j, j < i → Up (nthN X j) 7) ∧ Ho (Bel W0 wr)) (fun v _ => n - (intOf v).toNat)
 case atStart => exact ⟨0, Nat.zero_le _, rfl, ⟨fun j hj => absurd hj (Nat.not_lt_zero _)⟩, ⟨Bel.refl _⟩⟩
 case round =>
  obtain ⟨i, hi, rfl, HT, HW⟩ := hrel
  rcases Nat.lt_or_ge i n with hlt | hge
  ·obtain ⟨a1, r, rfl, y1, l1, c1⟩ := FX.out.at_ (i := i) (by rw [HN.out]; exact hlt)
   have y1 := HW.out.cell y1
   have L1 := Ho.mk l1
   have C1 := Ho.mk c1
   clear l1 c1
   cases h0 : (FloatKind.f64.format.order r 0 == some .eq) with
   | true =>
    have UP := Ho.mk (pass0 L1.out h0)
    go_wp2
    go_roundw
    case rel => exact ⟨i + 1, by omega, by simp, ⟨fun j hj => by rcases Nat.lt_or_ge j i with l | l; exact HT.out j l; rw [show j = i by omega, ← C1.out]; exact UP.out⟩, HW⟩
    case measure => simp [intOf]; omega
   | false =>
    cases h1 : (FloatKind.f64.format.order r 3256102530588868608 == some .gt || FloatKind.f64.format.order r 3256102530588868608 == some .eq) with
    | true =>
     cases h2 : (FloatKind.f64.format.order r 5958262307011166208 == some .lt || FloatKind.f64.format.order r 5958262307011166208 == some .eq) with
     | true =>
      have UP := Ho.mk (pass1 L1.out h1 h2)
      go_wp2
      go_roundw
      case rel => exact ⟨i + 1, by omega, by simp, ⟨fun j hj => by rcases Nat.lt_or_ge j i with l | l; exact HT.out j l; rw [show j = i by omega, ← C1.out]; exact UP.out⟩, HW⟩
      case measure => simp [intOf]; omega
     | false =>
      cases h3 : (FloatKind.f64.format.order r 12479474567443644416 == some .lt || FloatKind.f64.format.order r 12479474567443644416 == some .eq) with
      | true =>
       cases h4 : (FloatKind.f64.format.order r 15181634343865942016 == some .gt || FloatKind.f64.format.order r 15181634343865942016 == some .eq) with
       | true =>
        have UP := Ho.mk (pass2 L1.out h3 h4)
        go_wp2
        go_roundw
        case rel => exact ⟨i + 1, by omega, by simp, ⟨fun j hj => by rcases Nat.lt_or_ge j i with l | l; exact HT.out j l; rw [show j = i by omega, ← C1.out]; exact UP.out⟩, HW⟩
        case measure => simp [intOf]; omega
       | false =>
        go_wp2
        go_ret
        exact ⟨false, rfl, HW.out, fun e => by cases e⟩
      | false =>
       go_wp2
       go_ret
       exact ⟨false, rfl, HW.out, fun e => by cases e⟩
    | false =>
     cases h3 : (FloatKind.f64.format.order r 12479474567443644416 == some .lt || FloatKind.f64.format.order r 12479474567443644416 == some .eq) with
     | true =>
      cases h4 : (FloatKind.f64.format.order r 15181634343865942016 == some .gt || FloatKind.f64.format.order r 15181634343865942016 == some .eq) with
      | true =>
       have UP := Ho.mk (pass2 L1.out h3 h4)
       go_wp2
       go_roundw
       case rel => exact ⟨i + 1, by omega, by simp, ⟨fun j hj => by rcases Nat.lt_or_ge j i with l | l; exact HT.out j l; rw [show j = i by omega, ← C1.out]; exact UP.out⟩, HW⟩
       case measure => simp [intOf]; omega
      | false =>
       go_wp2
       go_ret
       exact ⟨false, rfl, HW.out, fun e => by cases e⟩
     | false =>
      go_wp2
      go_ret
      exact ⟨false, rfl, HW.out, fun e => by cases e⟩
  ·obtain rfl : i = n := by omega
   go_wp2
   go_ret
   exact ⟨true, rfl, HW.out, fun _ => HT.out⟩
end Pq
namespace Y8
open Ieee Go Go.RowKit Go.Proofs Go.Proofs.YtnbdoidccacdnaaGreatDoor Ow Dt Gp I0 U0 W0 S4 S6 P0 M0 M1 M3 W4 W5 V2 P4 Y3 Yh Y4 Y1 P8 Pc Y5 Y6 Y7
open Go.Proofs.YtnbdoidccacdnaaGreatDoor.V1 (NI St ni_same ni_loop St.refl St.of_bel blk_keep ni_blk put_st)
open Go.Proofs.YtnbdoidccacdnaaGreatDoor.C6 (leaveAny)
open Go.Proofs.YtnbdoidccacdnaaGreatDoor.Pg (In)
attribute [local go_sem ↓] Go.wp_at_zero Go.wp_at_succ
theorem eq0 {r : Nat} (h : r < 2 * sgnW) : (FloatKind.f64.format.order r 0 == some .eq) = decide (cn r = 0) := by
 have h1 := alike_cn h (show 0 < 2 * sgnW by decide)
 rw [cn_zero] at h1
 unfold G3.alike at h1
 have h2 : (FloatKind.f64.format.order 0 0 != some .eq) = false := by decide +kernel
 rw [h2, Bool.and_false, Bool.or_false] at h1
 exact h1
theorem gr_cell {b : Nat} {w w' : World} (g : Gr b w w') {p : Addr} {v : Value} (hc : w.cell? p = some v) (hn : p.block ≠ b) : w'.cell? p = some v := by
 have hlt := World.block_lt_of_cell? w p hc
 unfold World.cell? at hc ⊢
 rw [g.block p.block hlt hn]; exact hc
def logZ (k : Int) : Int := if k < 0 then -1 else logI k.toNat
theorem dLogN {k : Int} (w : World) (h : -1000 ≤ k ∧ k < 1100) (T : Tab w) : Calls Tryz.prog 77 #[.int .i64 k] w fun e w' => e = .returned (.int .i64 (logZ k)) ∧ w = w' := by
 by_cases hk : k < 0
 ·rw [show logZ k = -1 by unfold logZ; rw [if_pos hk]]
  have hk1 : k < 1 := by omega
  clear T
  go_enter Tryz.func77, Tryz.ntmps77
  go_wp2
  go_ret
  exact ⟨rfl, rfl⟩
 ·have := dLogR (n := k.toNat) rfl w (by omega) T
  rw [show ((k.toNat : Nat) : Int) = k by omega] at this
  rw [show logZ k = logI k.toNat by unfold logZ; rw [if_neg hk]]
  exact this
def packRow (X Y : List Nat) (m : Nat) (i : Nat) : Nat := if i = 0 then nthN X 0 else if i = 1 then nthN X m else if i % 2 = 0 then nthN X (i / 2) else nthN Y (i / 2)
def packN (X Y : List Nat) : List Nat := (List.range (2 * (X.length - 1))).map (packRow X Y (X.length - 1))
def okK (X Y : List Nat) : Bool := decide (X.length = Y.length ∧ X.length ≠ 0 ∧ 0 ≤ logI (X.length - 1) ∧ nthN Y 0 = 0 ∧ nthN Y (X.length - 1) = 0)
def pkR (X Y : List Nat) : List Nat := if okK X Y then packN X Y else []
def MakesRB (w : World) (Z : List Nat) (z : Bool) (e : Ending) (w' : World) : Prop := ∃ A c, e = .returned (.tuple #[.slice A Z.length c, .bool z]) ∧ RowF w' w.heap.size (.slice A Z.length c) Z ∧ Bel w w'
theorem packBad1 {A B : Option Addr} {c d n n' : Nat} (w : World) (hl : n ≤ 128) (hl' : n' ≤ 128) (hne : n ≠ n') : Calls Tryz.prog 42 #[.agg #[.slice A n c, .slice B n' d]] w (MakesRB w [] false) := by
 have H := Ho.mk ((Hp.nil (Bel.refl w)).box [.slice A n c, .slice B n' d] 24)
 go_enter Tryz.func42, Tryz.ntmps42
 go_upto_region 1 with fail
 generalize w.alloc (.cells #[.slice A n c, .slice B n' d] 24) = w0 at *
 have y0 := (H.out.blk 0 rfl).cell (i := 0) rfl
 have y1 := (H.out.blk 0 rfl).cell (i := 1) rfl
 have ne : ¬ (n' : Int) = (n : Int) - 1 + 1 := by omega
 have ne2 : ¬ n' = n := fun e => hne e.symm
 go_wp2
 go_ret2
 exact ⟨none, 0, rfl, RowF.nil _ _ _ _ (by decide), H.out.bel⟩
theorem packBad2 {A B : Option Addr} {c d n : Nat} {X Y : List Nat} (w : World) (T : Tab w) (hx : In w (.slice A n c) X) (hy : In w (.slice B n d) Y) (hX : X.length = n) (hY : Y.length = n) (hl : n ≤ 128) (h0 : n = 0 ∨ logI (n - 1) < 0) : Calls Tryz.prog 42 #[.agg #[.slice A n c, .slice B n d]] w (MakesRB w [] false) := by
 have H := Ho.mk ((Hp.nil (Bel.refl w)).box [.slice A n c, .slice B n d] 24)
 have TT := Ho.mk (T.bel H.out.bel)
 have HX := Ho.mk (hx.bel H.out.bel)
 have HY := Ho.mk (hy.bel H.out.bel)
 have HXL := Ho.mk hX
 have HYL := Ho.mk hY
 clear T hx hy hX hY
 have LG := Ho.mk (dLogN (k := (n : Int) - 1) (w.alloc (.cells #[.slice A n c, .slice B n d] 24)) (by omega) TT.out)
 obtain ⟨z, hz⟩ : ∃ z, z = logZ ((n : Int) - 1) := ⟨_, rfl⟩
 have hz0 : z < 0 := by
  rw [hz]; unfold logZ
  rcases h0 with h0 | h0
  ·rw [if_pos (by omega)]; decide
  ·split
   ·decide
   ·rw [show ((n : Int) - 1).toNat = n - 1 by omega]; exact h0
 rw [← hz] at LG
 clear hz h0
 go_enter Tryz.func42, Tryz.ntmps42
 go_upto_region 1 with fail
 generalize w.alloc (.cells #[.slice A n c, .slice B n d] 24) = w0 at *
 have y0 := (H.out.blk 0 rfl).cell (i := 0) rfl
 have y1 := (H.out.blk 0 rfl).cell (i := 1) rfl
 go_wp2_with fail
 (with_reducible refine LG.out.mono ?_); rintro e w1 ⟨rfl, rfl⟩
 go_wp2
 go_ret2
 exact ⟨none, 0, rfl, RowF.nil _ _ _ _ (by decide), H.out.bel⟩
theorem in_at {w : World} {ad : Addr} {n c i : Nat} {X : List Nat} (h : In w (.slice (some ad) n c) X) (hi : i < X.length) : ∃ r, w.cell? (ad.add i) = some (.float .f64 r) ∧ r < 2 * sgnW ∧ cn r = nthN X i := by
 obtain ⟨A1, c1, e, _, _, k, _⟩ := h.out
 cases e
 obtain ⟨ad', v, e, hc, r, rfl, h1, h2⟩ := k.cell i hi
 cases e
 exact ⟨r, hc, h1, h2⟩
theorem in_some {w : World} {A : Option Addr} {n c : Nat} {X : List Nat} (h : In w (.slice A n c) X) (hp : 0 < X.length) : ∃ ad, A = some ad := by
 obtain ⟨A1, c1, e, _, _, k, _⟩ := h.out
 obtain ⟨ad, _, e2, _⟩ := k.cell 0 hp
 simp only [Value.slice.injEq] at e
 exact ⟨ad, e.1.trans e2⟩
theorem ne_no {r : Nat} (h : (FloatKind.f64.format.order r 0 == some .eq) = true) : (FloatKind.f64.format.order r 0 != some .eq) = false := by simp [bne, h]
theorem ne_yes {r : Nat} (h : (FloatKind.f64.format.order r 0 == some .eq) = false) : (FloatKind.f64.format.order r 0 != some .eq) = true := by simp [bne, h]
theorem in_lt {w : World} {ad : Addr} {n c : Nat} {X : List Nat} (h : In w (.slice (some ad) n c) X) (hi : 0 < X.length) : ad.block < w.heap.size := by
 obtain ⟨r, h1, _⟩ := in_at h hi
 have := World.block_lt_of_cell? w _ h1
 rwa [add_block] at this
theorem add_zero' (ad : Addr) : ad.add 0 = ad := by simp [Addr.add]
theorem packBad3 {A B : Option Addr} {c d m : Nat} {X Y : List Nat} (w : World) (T : Tab w) (hx : In w (.slice A (m + 1) c) X) (hy : In w (.slice B (m + 1) d) Y) (hX : X.length = m + 1) (hY : Y.length = m + 1) (hl : m + 1 ≤ 128) (hlog : 0 ≤ logI m) (h0 : nthN Y 0 ≠ 0) : Calls Tryz.prog 42 #[.agg #[.slice A (m + 1) c, .slice B (m + 1) d]] w (MakesRB w [] false) := by
 have H := Ho.mk ((Hp.nil (Bel.refl w)).box [.slice A (m + 1) c, .slice B (m + 1) d] 24)
 have TT := Ho.mk (T.bel H.out.bel)
 have HX := Ho.mk (hx.bel H.out.bel)
 have HY := Ho.mk (hy.bel H.out.bel)
 have HXL := Ho.mk hX
 have HYL := Ho.mk hY
 have LG := Ho.mk (dLogN (k := (m : Int)) (w.alloc (.cells #[.slice A (m + 1) c, .slice B (m + 1) d] 24)) (by omega) TT.out)
 obtain ⟨z, hz⟩ : ∃ z, z = logZ (m : Int) := ⟨_, rfl⟩
 have hz0 : 0 ≤ z := by rw [hz]; unfold logZ; rw [if_neg (by omega), Int.toNat_natCast]; exact hlog
 have hz1 : z ≠ 10 := by
  rw [hz]; unfold logZ; rw [if_neg (by omega), Int.toNat_natCast]
  unfold logI
  split
  ·rename_i q
   intro e
   have : Nat.log2 m = 10 := by omega
   rw [this] at q
   omega
  ·decide
 rw [← hz] at LG
 have hz3 : decide (z < 0) = false := decide_eq_false (by omega)
 have hz4 : (z == 10) = false := by simp [hz1]
 obtain ⟨adX, hA⟩ := in_some hx (by omega)
 obtain ⟨adY, hB⟩ := in_some hy (by omega)
 subst hA; subst hB
 clear T hx hy hX hY hz hlog
 go_enter Tryz.func42, Tryz.ntmps42
 go_upto_region 1 with fail
 generalize w.alloc (.cells #[.slice (some adX) (m + 1) c, .slice (some adY) (m + 1) d] 24) = w0 at *
 have y0 := (H.out.blk 0 rfl).cell (i := 0) rfl
 have y1 := (H.out.blk 0 rfl).cell (i := 1) rfl
 have m0 : 0 < m + 1 := Nat.succ_pos m
 obtain ⟨r0, yr0, lr0, cr0⟩ := in_at HY.out (i := 0) (by have := HYL.out; omega)
 have yq0 := yr0
 rw [add_zero'] at yq0
 have e0 : (FloatKind.f64.format.order r0 0 == some .eq) = false := by rw [eq0 lr0, cr0]; exact decide_eq_false h0
 replace e0 := ne_yes e0
 clear cr0 lr0
 go_wp2_with fail
 (with_reducible refine LG.out.mono ?_); rintro e w1 ⟨rfl, rfl⟩
 go_wp2_with fail
 (with_reducible refine LG.out.mono ?_); rintro e w1 ⟨rfl, rfl⟩
 go_wp2
 go_ret2
 exact ⟨none, 0, rfl, RowF.nil _ _ _ _ (by decide), H.out.bel⟩
theorem packBad4 {A B : Option Addr} {c d m : Nat} {X Y : List Nat} (w : World) (T : Tab w) (hx : In w (.slice A (m + 1) c) X) (hy : In w (.slice B (m + 1) d) Y) (hX : X.length = m + 1) (hY : Y.length = m + 1) (hl : m + 1 ≤ 128) (hlog : 0 ≤ logI m) (h0 : nthN Y 0 = 0) (h1 : nthN Y m ≠ 0) : Calls Tryz.prog 42 #[.agg #[.slice A (m + 1) c, .slice B (m + 1) d]] w (MakesRB w [] false) := by
 have H := Ho.mk ((Hp.nil (Bel.refl w)).box [.slice A (m + 1) c, .slice B (m + 1) d] 24)
 have TT := Ho.mk (T.bel H.out.bel)
 have HX := Ho.mk (hx.bel H.out.bel)
 have HY := Ho.mk (hy.bel H.out.bel)
 have HXL := Ho.mk hX
 have HYL := Ho.mk hY
 have LG := Ho.mk (dLogN (k := (m : Int)) (w.alloc (.cells #[.slice A (m + 1) c, .slice B (m + 1) d] 24)) (by omega) TT.out)
 obtain ⟨z, hz⟩ : ∃ z, z = logZ (m : Int) := ⟨_, rfl⟩
 have hz0 : 0 ≤ z := by rw [hz]; unfold logZ; rw [if_neg (by omega), Int.toNat_natCast]; exact hlog
 have hz1 : z ≠ 10 := by
  rw [hz]; unfold logZ; rw [if_neg (by omega), Int.toNat_natCast]
  unfold logI
  split
  ·rename_i q
   intro e
   have : Nat.log2 m = 10 := by omega
   rw [this] at q
   omega
  ·decide
 rw [← hz] at LG
 have hz3 : decide (z < 0) = false := decide_eq_false (by omega)
 have hz4 : (z == 10) = false := by simp [hz1]
 obtain ⟨adX, hA⟩ := in_some hx (by omega)
 obtain ⟨adY, hB⟩ := in_some hy (by omega)
 subst hA; subst hB
 clear T hx hy hX hY hz hlog
 go_enter Tryz.func42, Tryz.ntmps42
 go_upto_region 1 with fail
 generalize w.alloc (.cells #[.slice (some adX) (m + 1) c, .slice (some adY) (m + 1) d] 24) = w0 at *
 have y0 := (H.out.blk 0 rfl).cell (i := 0) rfl
 have y1 := (H.out.blk 0 rfl).cell (i := 1) rfl
 have m0 : 0 < m + 1 := Nat.succ_pos m
 obtain ⟨r0, yr0, lr0, cr0⟩ := in_at HY.out (i := 0) (by have := HYL.out; omega)
 have yq0 := yr0
 rw [add_zero'] at yq0
 obtain ⟨r1, yr1, lr1, cr1⟩ := in_at HY.out (i := m) (by have := HYL.out; omega)
 have e0 : (FloatKind.f64.format.order r0 0 == some .eq) = true := by rw [eq0 lr0, cr0]; exact decide_eq_true h0
 replace e0 := ne_no e0
 clear cr0 lr0
 have hm2 : m < m + 1 := Nat.lt_succ_self m
 have e1 : (FloatKind.f64.format.order r1 0 == some .eq) = false := by rw [eq0 lr1, cr1]; exact decide_eq_false h1
 replace e1 := ne_yes e1
 clear cr1 lr1
 go_wp2_with fail
 (with_reducible refine LG.out.mono ?_); rintro e w1 ⟨rfl, rfl⟩
 go_wp2_with fail
 (with_reducible refine LG.out.mono ?_); rintro e w1 ⟨rfl, rfl⟩
 go_wp2
 go_ret2
 exact ⟨none, 0, rfl, RowF.nil _ _ _ _ (by decide), H.out.bel⟩
theorem packOk {A B : Option Addr} {c d m : Nat} {X Y : List Nat} (w : World) (T : Tab w) (hx : In w (.slice A (m + 1) c) X) (hy : In w (.slice B (m + 1) d) Y) (hX : X.length = m + 1) (hY : Y.length = m + 1) (hl : m + 1 ≤ 128) (hlog : 0 ≤ logI m) (h0 : nthN Y 0 = 0) (h1 : nthN Y m = 0) (hm1 : 1 ≤ m) : Calls Tryz.prog 42 #[.agg #[.slice A (m + 1) c, .slice B (m + 1) d]] w (MakesRB w (packN X Y) true) := by
 obtain ⟨pf, hpf⟩ : ∃ pf : Nat → Nat, pf = fun i => if i % 2 = 0 then nthN X (i / 2) else nthN Y (i / 2) := ⟨_, rfl⟩
 have HPF := Ho.mk hpf
 clear hpf
 have H := Ho.mk ((Hp.nil (Bel.refl w)).box [.slice A (m + 1) c, .slice B (m + 1) d] 24)
 have TT := Ho.mk (T.bel H.out.bel)
 have HX := Ho.mk (hx.bel H.out.bel)
 have HY := Ho.mk (hy.bel H.out.bel)
 have HXL := Ho.mk hX
 have HYL := Ho.mk hY
 have LG := Ho.mk (dLogN (k := (m : Int)) (w.alloc (.cells #[.slice A (m + 1) c, .slice B (m + 1) d] 24)) (by omega) TT.out)
 obtain ⟨z, hz⟩ : ∃ z, z = logZ (m : Int) := ⟨_, rfl⟩
 have hz0 : 0 ≤ z := by rw [hz]; unfold logZ; rw [if_neg (by omega), Int.toNat_natCast]; exact hlog
 have hz1 : z ≠ 10 := by
  rw [hz]; unfold logZ; rw [if_neg (by omega), Int.toNat_natCast]
  unfold logI
  split
  ·rename_i q
   intro e
   have : Nat.log2 m = 10 := by omega
   rw [this] at q
   omega
  ·decide
 rw [← hz] at LG
 have hz3 : decide (z < 0) = false := decide_eq_false (by omega)
 have hz4 : (z == 10) = false := by simp [hz1]
 obtain ⟨adX, hA⟩ := in_some hx (by omega)
 obtain ⟨adY, hB⟩ := in_some hy (by omega)
 subst hA; subst hB
 clear T hx hy hX hY hz hlog
 go_enter Tryz.func42, Tryz.ntmps42
 go_upto_region 1 with fail
 generalize w.alloc (.cells #[.slice (some adX) (m + 1) c, .slice (some adY) (m + 1) d] 24) = w0 at *
 have y0 := (H.out.blk 0 rfl).cell (i := 0) rfl
 have y1 := (H.out.blk 0 rfl).cell (i := 1) rfl
 have m0 : 0 < m + 1 := Nat.succ_pos m
 obtain ⟨r0, yr0, lr0, cr0⟩ := in_at HY.out (i := 0) (by have := HYL.out; omega)
 have yq0 := yr0
 rw [add_zero'] at yq0
 obtain ⟨r1, yr1, lr1, cr1⟩ := in_at HY.out (i := m) (by have := HYL.out; omega)
 have e0 : (FloatKind.f64.format.order r0 0 == some .eq) = true := by rw [eq0 lr0, cr0]; exact decide_eq_true h0
 replace e0 := ne_no e0
 clear cr0 lr0
 have hm2 : m < m + 1 := Nat.lt_succ_self m
 have e1 : (FloatKind.f64.format.order r1 0 == some .eq) = true := by rw [eq0 lr1, cr1]; exact decide_eq_true h1
 replace e1 := ne_no e1
 clear cr1 lr1
 go_wp2_with fail
 (with_reducible refine LG.out.mono ?_); rintro e w1 ⟨rfl, rfl⟩
 go_wp2_with fail
 (with_reducible refine LG.out.mono ?_); rintro e w1 ⟨rfl, rfl⟩
 go_wp2_with (at_make; refine wpList_mk _ rfl _ _ 97 rfl 50 (.float .f64 0) 8 Tryz.underlying97 infoF rfl (2 * m) rfl rfl (by omega) (by omega) ?_; intro w5 hk5 hb5 hs5)
 have FK := Ho.mk (show Fk w5 w0.heap.size (upTo pf (2 * m) 0) by rw [upTo_zero]; exact fk_zero hk5)
 have GB := Ho.mk hb5
 have l0 := H.out.bel.size
 have nX : adX.block ≠ w0.heap.size := by have := in_lt HX.out (by have := HXL.out; omega); omega
 have nY : adY.block ≠ w0.heap.size := by have := in_lt HY.out (by have := HYL.out; omega); omega
 have nZ : w.heap.size ≠ w0.heap.size := by have := (H.out.blk 0 rfl).lt; omega
 clear hk5 hb5 hs5 e0 e1 yr0 yq0 yr1 y0 y1
 obtain ⟨bo, hbo⟩ : ∃ bo, bo = w0.heap.size := ⟨_, rfl⟩
 rw [← hbo] at FK nX nY nZ ⊢
 have LBO := Ho.mk (show w.heap.size ≤ bo by omega)
 clear hbo
 go_loopw [46] (fun v wr => ∃ (i : Nat), i ≤ m ∧ v = .int .i64 i ∧ Ho (Fk wr bo (upTo pf (2 * m) (2 * i))) ∧ Ho (Gr bo w5 wr)) (fun v _ => m - (intOf v).toNat)
 case atStart => exact ⟨0, Nat.zero_le _, rfl, FK, ⟨Gr.refl _ _⟩⟩
 case round =>
  clear FK
  obtain ⟨i, hi, rfl, FK, HG⟩ := hrel
  have KZ := Ho.mk (HG.out.blk ((H.out.grow GB.out).blk 0 rfl) nZ)
  have y0 := KZ.out.cell (i := 0) rfl
  have y1 := KZ.out.cell (i := 1) rfl
  have n0 : (⟨w.heap.size, 0, none⟩ : Addr).block ≠ bo := nZ
  have n1 : (⟨w.heap.size, 1, none⟩ : Addr).block ≠ bo := nZ
  have nxa : ∀ j, (adX.add j).block ≠ bo := fun j => by rw [add_block]; exact nX
  have nya : ∀ j, (adY.add j).block ≠ bo := fun j => by rw [add_block]; exact nY
  rcases Nat.lt_or_ge i m with hlt | hge
  ·obtain ⟨rx, yx, lx, cx⟩ := in_at (HX.out.bel GB.out) (i := i) (by have := HXL.out; omega)
   obtain ⟨ry, yy, ly, cy⟩ := in_at (HY.out.bel GB.out) (i := i) (by have := HYL.out; omega)
   replace yx := gr_cell HG.out yx (nxa i)
   replace yy := gr_cell HG.out yy (nya i)
   have nx := nxa i
   have ny := nya i
   have WX := Ho.mk (And.intro lx cx)
   have WY := Ho.mk (And.intro ly cy)
   have hi4 : (i : Int) < (m : Int) + 1 := by omega
   clear lx cx ly cy nxa nya
   go_upto_region 8 with fail
   refine wp_region_held_drew (S := fun w' => Gr bo wr w') (by kernel_rfl) (Gr.refl bo wr).drew (fun hHeld => ?_)
   (try dsimp only at hHeld)
   refine rt (i := 0) hHeld ?_
   refine rt (i := 1) hHeld ?_
   refine rt (i := 2) hHeld ?_
   refine rl (i := 3) (v := ?_) hHeld (fun w' hSw => ?_) ?_
   rotate_left
   ·(have z0 := gr_cell hSw y0 n0; go_simp; try (with_reducible rfl))
   refine rt (i := 4) hHeld ?_
   refine rt (i := 5) hHeld ?_
   refine rl (i := 6) (v := ?_) hHeld (fun w' hSw => ?_) ?_
   rotate_left
   ·(have z0 := gr_cell hSw yx nx; go_simp; try (with_reducible rfl))
   refine rt (i := 7) hHeld ?_
   refine rl (i := 8) (v := ?_) hHeld (fun w' hSw => ?_) ?_
   rotate_left
   ·(have z0 := gr_cell hSw y1 n1; go_simp; try (with_reducible rfl))
   refine rt (i := 9) hHeld ?_
   refine rt (i := 10) hHeld ?_
   refine rl (i := 11) (v := ?_) hHeld (fun w' hSw => ?_) ?_
   rotate_left
   ·(have z0 := gr_cell hSw yy ny; go_simp; try (with_reducible rfl))
   try simp only [Act.put, List.setIfInBounds_toArray, List.set_cons_zero, List.set_cons_succ]
   refine rc (i := 12) (fun K hK => ?_)
   go_simp
   go_at_call 80
   (refine (dPut (n := 2 * m) (c := 2 * m) (k := i) _ (FK.out.bel (Bel.refl wr).drew) (by omega) (upTo_len _ _ _) (by omega) WX.out.1 WY.out.1).mono ?_); rintro e wpa ⟨rfl, fpa, gpa⟩
   try go_wp2_with fail
   refine hK.out _ _ (hHeld.trans gpa) (fun hHeld => ?_)
   clear hK K
   try simp only [Act.put, List.setIfInBounds_toArray, List.set_cons_zero, List.set_cons_succ]
   refine wpAnyH_done (by kernel_rfl) ?_ _
   have e2 := upTo_two pf (n := 2 * m) (k := i) (by omega) (a := cn rx) (b := cn ry) (by rw [WX.out.2, HPF.out]; simp only; rw [if_pos (by omega)]; congr 1; omega) (by rw [WY.out.2, HPF.out]; simp only; rw [if_neg (by omega)]; congr 1; omega)
   rw [e2] at fpa
   have FK := Ho.mk fpa
   have HG := Ho.mk (HG.out.trans hHeld)
   clear fpa gpa hHeld e2
   go_wp2_with fail
   go_roundw
   case rel => exact ⟨i + 1, by omega, by simp, FK, HG⟩
   case measure => simp [intOf]; omega
  ·obtain rfl : i = m := by omega
   obtain ⟨rx, yx0, lx, cx⟩ := in_at (HX.out.bel GB.out) (i := 0) (by have := HXL.out; omega)
   obtain ⟨rm, yxm, lm, cm⟩ := in_at (HX.out.bel GB.out) (i := i) (by have := HXL.out; omega)
   replace yx0 := gr_cell HG.out yx0 (nxa 0)
   replace yxm := gr_cell HG.out yxm (nxa i)
   have yq := yx0
   rw [add_zero'] at yq
   have nx := nxa 0
   have nx2 := nX
   have nxm := nxa i
   have hi4 : (i : Int) < (i : Int) + 1 := by omega
   have W0 := Ho.mk (And.intro lx cx)
   have WM := Ho.mk (And.intro lm cm)
   clear lx cx lm cm nxa nya
   go_upto_region 10 with fail
   refine wp_region_held_drew (S := fun w' => Gr bo wr w') (by kernel_rfl) (Gr.refl bo wr).drew (fun hHeld => ?_)
   (try dsimp only at hHeld)
   refine rt (i := 0) hHeld ?_
   refine rt (i := 1) hHeld ?_
   refine rl (i := 2) (v := ?_) hHeld (fun w' hSw => ?_) ?_
   rotate_left
   ·(have z0 := gr_cell hSw y0 n0; go_simp; try (with_reducible rfl))
   refine rt (i := 3) hHeld ?_
   refine rl (i := 4) (v := ?_) hHeld (fun w' hSw => ?_) ?_
   rotate_left
   ·(have z0 := gr_cell hSw yx0 nx; have z1 := gr_cell hSw yq nx2; go_simp; try (with_reducible rfl))
   refine rt (i := 5) hHeld ?_
   refine rl (i := 6) (v := ?_) hHeld (fun w' hSw => ?_) ?_
   rotate_left
   ·(have z0 := gr_cell hSw y0 n0; go_simp; try (with_reducible rfl))
   refine rt (i := 7) hHeld ?_
   refine rt (i := 8) hHeld ?_
   refine rl (i := 9) (v := ?_) hHeld (fun w' hSw => ?_) ?_
   rotate_left
   ·(have z0 := gr_cell hSw yxm nxm; go_simp; try (with_reducible rfl))
   try simp only [Act.put, List.setIfInBounds_toArray, List.set_cons_zero, List.set_cons_succ]
   refine rc (i := 10) (fun K hK => ?_)
   go_simp
   go_at_call 80
   (refine (dPut (n := 2 * i) (c := 2 * i) (k := 0) _ (FK.out.bel (Bel.refl wr).drew) (by omega) (upTo_len _ _ _) (by omega) W0.out.1 WM.out.1).mono ?_); rintro e wpa ⟨rfl, fpa, gpa⟩
   try go_wp2_with fail
   refine hK.out _ _ (hHeld.trans gpa) (fun hHeld => ?_)
   clear hK K
   try simp only [Act.put, List.setIfInBounds_toArray, List.set_cons_zero, List.set_cons_succ]
   refine wpAnyH_done (by kernel_rfl) ?_ _
   have BF := HG.out.trans hHeld
   have lz : i ≠ 0 := by omega
   have e3 : ((upTo pf (2 * i) (2 * i)).set (2 * 0) (cn rx)).set (2 * 0 + 1) (cn rm) = packN X Y := by
    unfold packN
    rw [HXL.out, W0.out.2, WM.out.2, Nat.add_sub_cancel]
    apply List.ext_getElem (by simp [upTo])
    intro q h1 h2
    simp only [upTo, List.getElem_set, List.getElem_map, List.getElem_range, packRow]
    by_cases q1 : q = 1
    ·subst q1; simp
    ·by_cases q0 : q = 0
     ·subst q0; simp
     ·have hq : q < 2 * i := by simpa [upTo] using h1
      rw [if_neg (by omega), if_neg (by omega), if_pos hq, if_neg q0, if_neg q1, HPF.out]
   rw [e3] at fpa
   have FK := Ho.mk fpa
   have HB := Ho.mk (BF.bel (H.out.bel.trans GB.out) LBO.out)
   clear fpa gpa hHeld e3 BF
   go_wp2
   go_ret2
   have lp : (packN X Y).length = 2 * i := by unfold packN; rw [List.length_map, List.length_range, HXL.out]; omega
   exact ⟨some ⟨bo, 0, none⟩, 2 * i, by rw [lp]; rfl, RowF.of FK.out.fz LBO.out (by omega) (by omega), HB.out⟩
theorem dPack {A B : Option Addr} {c d n n' : Nat} {X Y : List Nat} (w : World) (T : Tab w) (hx : In w (.slice A n c) X) (hy : In w (.slice B n' d) Y) (hX : X.length = n) (hY : Y.length = n') (hl : n ≤ 128) (hl' : n' ≤ 128) :
  Calls Tryz.prog 42 #[.agg #[.slice A n c, .slice B n' d]] w (MakesRB w (pkR X Y) (okK X Y)) := by
 by_cases h1 : n = n'
 ·subst h1
  by_cases h2 : n = 0 ∨ logI (n - 1) < 0
  ·have e : okK X Y = false := by
    unfold okK
    apply decide_eq_false
    rintro ⟨_, q1, q2, _⟩
    rw [hX] at q1 q2
    rcases h2 with h2 | h2 <;> omega
   unfold pkR; rw [e]
   exact packBad2 w T hx hy hX hY hl h2
  ·obtain ⟨m, rfl⟩ : ∃ m, n = m + 1 := ⟨n - 1, by omega⟩
   have hlog : 0 ≤ logI m := by have : ¬ logI (m + 1 - 1) < 0 := fun q => h2 (.inr q); rw [Nat.add_sub_cancel] at this; omega
   have hm1 : 1 ≤ m := by
    rcases Nat.eq_zero_or_pos m with q | q
    ·subst q; exact absurd hlog (by decide)
    ·exact q
   by_cases h3 : nthN Y 0 = 0
   ·by_cases h4 : nthN Y m = 0
    ·have e : okK X Y = true := by
      unfold okK
      exact decide_eq_true ⟨by rw [hX, hY], by rw [hX]; omega, by rw [hX]; exact hlog, h3, by rw [hX]; exact h4⟩
     unfold pkR; rw [e]
     exact packOk w T hx hy hX hY hl hlog h3 h4 hm1
    ·have e : okK X Y = false := by
      unfold okK
      apply decide_eq_false
      rintro ⟨_, _, _, _, q⟩
      rw [hX] at q; exact h4 q
     unfold pkR; rw [e]
     exact packBad4 w T hx hy hX hY hl hlog h3 h4
   ·have e : okK X Y = false := by
     unfold okK
     apply decide_eq_false
     rintro ⟨_, _, _, q, _⟩
     exact h3 q
    unfold pkR; rw [e]
    exact packBad3 w T hx hy hX hY hl hlog h3
 ·have e : okK X Y = false := by
   unfold okK
   apply decide_eq_false
   rintro ⟨q, _⟩
   rw [hX, hY] at q; exact h1 q
  unfold pkR; rw [e]
  exact packBad1 w hl hl' h1
end Y8
namespace Lv
open Ieee Go Go.RowKit Go.Proofs Go.Proofs.YtnbdoidccacdnaaGreatDoor Ow Dt Gp I0 U0 W0 S4 S6 P0 M0 M1 M2 M3 P4 P5 P6 P8 Pa W4 W5 W1 W2 Pc Pe Pg Ph Pj Pk
theorem litRow {w : World} {b n : Nat} {cs : List Value} {X : List Nat} (K : Blk w b 50 cs) (hc : cs = X.map (.float .f64)) (hX : X.all (fun x => decide (x < 2 * sgnW) && (cn x == x)) = true) (hn : X.length = n) (hl : n ≤ 1000) : RowF w b (.slice (some ⟨b, 0, none⟩) n n) X := by
 subst hc; subst hn
 have hx : ∀ x ∈ X, x < 2 * sgnW ∧ cn x = x := fun x h => by
  have := List.all_eq_true.1 hX x h
  simpa using this
 exact RowF.of ⟨_, K, fun j hj => ⟨.float .f64 X[j], by simp [hj], X[j], rfl, (hx _ (List.getElem_mem hj)).1, by rw [nthN_lt hj]; exact (hx _ (List.getElem_mem hj)).2⟩⟩ (Nat.le_refl _) (Nat.le_refl _) (Nat.le_trans hl (by decide))
theorem In.len {w : World} {A : Option Addr} {n c : Nat} {X : List Nat} (h : In w (.slice A n c) X) : n = X.length := by
 obtain ⟨A1, c1, e, _⟩ := h.out
 cases e; rfl
theorem RowF.len {w : World} {B : Nat} {A : Option Addr} {n c : Nat} {X : List Nat} (h : RowF w B (.slice A n c) X) : n = X.length := by
 obtain ⟨A1, c1, e, _⟩ := h.out
 cases e; rfl
theorem inn {w : World} {B : Nat} {v : Value} {X : List Nat} (h : RowF w B v X) (hm : X.length ≤ 100000) : In w v X := RowF.inn h (by omega)
theorem in_nil (w : World) (A : Option Addr) : In w (.slice none 0 0) [] := ⟨none, 0, rfl, Nat.le_refl _, by decide, Fr.nil _ _, fun _ => rfl⟩
section
variable {A B : Option Addr} {n m c c' : Nat} {X Y : List Nat} {w : World}
theorem pSame {A2 B2 : Option Addr} {n2 m2 c2 d2 : Nat} {X2 Y2 : List Nat} {z : Bool} (hx : In w (.slice A n c) X) (hy : In w (.slice B m c') Y) (hx2 : In w (.slice A2 n2 c2) X2) (hy2 : In w (.slice B2 m2 d2) Y2)
  (l1 : X.length ≤ 100000) (l2 : Y.length ≤ 100000) (l3 : X2.length ≤ 100000) (l4 : Y2.length ≤ 100000) (hz : z = decide (X = X2 ∧ Y = Y2)) :
  Calls Tryz.prog 21 #[.agg #[.slice A n c, .slice B m c'], .agg #[.slice A2 n2 c2, .slice B2 m2 d2]] w (fun e w' => e = .returned (.bool z) ∧ Bel w w') := by
 obtain rfl := In.len hx; obtain rfl := In.len hy; obtain rfl := In.len hx2; obtain rfl := In.len hy2
 rw [hz]
 exact dSame w hx hy hx2 hy2 l1 l2 l3 l4
end
end Lv
namespace Le
open Ieee Go Go.RowKit Go.Proofs Go.Proofs.YtnbdoidccacdnaaGreatDoor Ow Dt Gp I0 U0 W0 S4 S6 P0 M0 M1 M3 W4 W5 V2 P4 Y3 Yh Y1 P8 Pc Y5 Y6 Y7 Y8 Pk Lv Pj
open Go.Proofs.YtnbdoidccacdnaaGreatDoor.V1 (NI St ni_same ni_loop St.refl St.of_bel blk_keep ni_blk put_st)
open Go.Proofs.YtnbdoidccacdnaaGreatDoor.C6 (leaveAny)
open Go.Proofs.YtnbdoidccacdnaaGreatDoor.Pg (In)
attribute [local go_sem ↓] Go.wp_at_zero Go.wp_at_succ
section
variable {A B : Option Addr} {n m c c' : Nat} {X Y : List Nat} {w : World}
theorem pRfft (T : Tab w) (hx : In w (.slice A n c) X) (hl : X.length ≤ 128) {Z : List Nat} {z : Int} (h1 : Z = rfR X) (h2 : z = errF X) :
  Calls Tryz.prog 38 #[.slice A n c] w (MakesRE w Z z) := by
 obtain rfl := In.len hx
 rw [h1, h2]; exact dRfft w T hx hl
theorem pBins (T : Tab w) (hx : In w (.slice A n c) X) (hl : X.length ≤ 128) {Z1 Z2 : List Nat} {z : Bool} (h1 : Z1 = binsRe X) (h2 : Z2 = binsIm X) (h3 : z = okR X.length) :
  Calls Tryz.prog 40 #[.slice A n c] w (MakesVB w Z1 Z2 z) := by
 obtain rfl := In.len hx
 rw [h1, h2, h3]; exact dBins w T hx hl
theorem pPack (T : Tab w) (hx : In w (.slice A n c) X) (hy : In w (.slice B m c') Y) (hl : X.length ≤ 128) (hl' : Y.length ≤ 128) {Z : List Nat} {z : Bool} (h1 : Z = pkR X Y) (h2 : z = okK X Y) :
  Calls Tryz.prog 42 #[.agg #[.slice A n c, .slice B m c']] w (MakesRB w Z z) := by
 obtain rfl := In.len hx; obtain rfl := In.len hy
 rw [h1, h2]; exact dPack w T hx hy rfl rfl hl hl'
theorem pSameRow (hx : In w (.slice A n c) X) (hy : In w (.slice B m c') Y) (l1 : X.length ≤ 100000) (l2 : Y.length ≤ 100000) {z : Bool} (hz : z = decide (X = Y)) :
  Calls Tryz.prog 44 #[.slice A n c, .slice B m c'] w (fun e w' => e = .returned (.bool z) ∧ Bel w w') := by
 rw [hz]; exact dSameRowI w hx hy l1 l2
end
theorem h1 : rfR [4607182418800017408, 4611686018427387904, 4613937818241073152, 4616189618054758400] = [4621819117588971520, 13835058055282163712, 13835058055282163712, 4611686018427387904] ∧ errF [4607182418800017408, 4611686018427387904, 4613937818241073152, 4616189618054758400] = 0 := by decide +kernel
theorem h2 : rfR [4607182418800017408, 4611686018427387904, 4613937818241073152] = [] ∧ errF [4607182418800017408, 4611686018427387904, 4613937818241073152] = 2 := by decide +kernel
theorem h3 : binsRe [4621819117588971520, 13835058055282163712, 13835058055282163712, 4611686018427387904] = [4621819117588971520, 13835058055282163712, 13835058055282163712] ∧ binsIm [4621819117588971520, 13835058055282163712, 13835058055282163712, 4611686018427387904] = [0, 4611686018427387904, 0] ∧ okR 4 = true := by decide +kernel
theorem h4 : binsRe [] = [] ∧ binsIm [] = [] ∧ okR 0 = false := by decide +kernel
theorem h5 : pkR [4621819117588971520, 13835058055282163712, 13835058055282163712] [0, 4611686018427387904, 0] = [4621819117588971520, 13835058055282163712, 13835058055282163712, 4611686018427387904] ∧ okK [4621819117588971520, 13835058055282163712, 13835058055282163712] [0, 4611686018427387904, 0] = true := by decide +kernel
theorem h6 : pkR [4607182418800017408, 4611686018427387904] [0, 4607182418800017408] = [] ∧ okK [4607182418800017408, 4611686018427387904] [0, 4607182418800017408] = false := by decide +kernel
theorem head14 (w : World) (T : Tab w) : Calls Tryz.prog 37 #[] w (fun e w' => e = .returned (.bool true) ∧ Bel w w') := by
 have TT := Ho.mk T
 clear T
 go_enter Tryz.func37, Tryz.ntmps37
 go_wp2_with fail
 have K1 := Ho.mk (Blk.new w [.float .f64 4607182418800017408, .float .f64 4611686018427387904, .float .f64 4613937818241073152, .float .f64 4616189618054758400] 50)
 have g1 := Ho.mk ((Bel.refl w).alloc (.cells #[.float .f64 4607182418800017408, .float .f64 4611686018427387904, .float .f64 4613937818241073152, .float .f64 4616189618054758400] 50))
 generalize w.alloc (.cells #[.float .f64 4607182418800017408, .float .f64 4611686018427387904, .float .f64 4613937818241073152, .float .f64 4616189618054758400] 50) = v2 at *
 have R3 := Ho.mk (litRow (X := [4607182418800017408, 4611686018427387904, 4613937818241073152, 4616189618054758400]) K1.out rfl (by decide) (n := 4) rfl (by decide))
 obtain ⟨Z1, hZ1⟩ : ∃ Z, Z = [4621819117588971520, 13835058055282163712, 13835058055282163712, 4611686018427387904] := ⟨_, rfl⟩
 have C4 := Ho.mk (pRfft (TT.out.bel g1.out) (inn R3.out (by decide)) (by decide) (Z := Z1) (z := 0) (hZ1.trans h1.1.symm) h1.2.symm)
 (with_reducible refine C4.out.mono ?_); rintro e v5 ⟨Q1, c1, rfl, t1, b6⟩
 have b6H := Ho.mk b6
 have T1 := Ho.mk t1
 clear C4 b6 t1
 have HZ1 := Ho.mk hZ1
 clear hZ1
 go_wp2_with fail
 have K2 := Ho.mk (Blk.new v5 [.float .f64 4607182418800017408, .float .f64 4611686018427387904, .float .f64 4613937818241073152] 50)
 have g7 := Ho.mk ((Bel.refl v5).alloc (.cells #[.float .f64 4607182418800017408, .float .f64 4611686018427387904, .float .f64 4613937818241073152] 50))
 generalize v5.alloc (.cells #[.float .f64 4607182418800017408, .float .f64 4611686018427387904, .float .f64 4613937818241073152] 50) = v8 at *
 have R9 := Ho.mk (litRow (X := [4607182418800017408, 4611686018427387904, 4613937818241073152]) K2.out rfl (by decide) (n := 3) rfl (by decide))
 obtain ⟨Z2, hZ2⟩ : ∃ Z : List Nat, Z = [] := ⟨_, rfl⟩
 have C10 := Ho.mk (pRfft (TT.out.bel ((g1.out.trans b6H.out).trans g7.out)) (inn R9.out (by decide)) (by decide) (Z := Z2) (z := 2) (hZ2.trans h2.1.symm) h2.2.symm)
 (with_reducible refine C10.out.mono ?_); rintro e v11 ⟨Q2, c2, rfl, t2, b12⟩
 have b12H := Ho.mk b12
 have T2 := Ho.mk t2
 clear C10 b12 t2
 clear hZ2
 go_wp2_with fail
 obtain ⟨X3, hX3⟩ : ∃ Z, Z = [4621819117588971520, 13835058055282163712, 13835058055282163712] := ⟨_, rfl⟩
 obtain ⟨Y3, hY3⟩ : ∃ Z, Z = [0, 4611686018427387904, 0] := ⟨_, rfl⟩
 have C13 := Ho.mk (pBins (TT.out.bel (((g1.out.trans b6H.out).trans g7.out).trans b12H.out)) (inn (T1.out.bel (g7.out.trans b12H.out)) (by rw [HZ1.out]; decide)) (by rw [HZ1.out]; decide) (Z1 := X3) (Z2 := Y3) (z := true) (by rw [hX3, HZ1.out]; exact h3.1.symm) (by rw [hY3, HZ1.out]; exact h3.2.1.symm) (by rw [HZ1.out]; exact h3.2.2.symm))
 (with_reducible refine C13.out.mono ?_); rintro e v14 ⟨Q3, c3, S3, d3, rfl, t3, b15⟩
 have b15H := Ho.mk b15
 have T3 := Ho.mk t3
 clear C13 b15 t3
 have HX3 := Ho.mk hX3
 clear hX3
 have HY3 := Ho.mk hY3
 clear hY3
 go_wp2_with fail
 have B3 := Ho.mk (Blk.new v14 [.slice Q3 X3.length c3, .slice S3 Y3.length d3] 24)
 have g16 := Ho.mk ((Bel.refl v14).alloc (.cells #[.slice Q3 X3.length c3, .slice S3 Y3.length d3] 24))
 generalize v14.alloc (.cells #[.slice Q3 X3.length c3, .slice S3 Y3.length d3] 24) = v17 at *
 obtain ⟨X4, hX4⟩ : ∃ Z : List Nat, Z = [] := ⟨_, rfl⟩
 obtain ⟨Y4, hY4⟩ : ∃ Z : List Nat, Z = [] := ⟨_, rfl⟩
 have C18 := Ho.mk (pBins (TT.out.bel (((((g1.out.trans b6H.out).trans g7.out).trans b12H.out).trans b15H.out).trans g16.out)) (in_nil _ none) (by decide) (Z1 := X4) (Z2 := Y4) (z := false) (by rw [hX4]; exact h4.1.symm) (by rw [hY4]; exact h4.2.1.symm) h4.2.2.symm)
 (with_reducible refine C18.out.mono ?_); rintro e v19 ⟨Q4, c4, S4, d4, rfl, t4, b20⟩
 have b20H := Ho.mk b20
 have T4 := Ho.mk t4
 clear C18 b20 t4
 clear hX4 hY4
 go_upto_region 5 with fail
 have B4 := Ho.mk (Blk.new v19 [.slice Q4 X4.length c4, .slice S4 Y4.length d4] 24)
 have g21 := Ho.mk ((Bel.refl v19).alloc (.cells #[.slice Q4 X4.length c4, .slice S4 Y4.length d4] 24))
 generalize v19.alloc (.cells #[.slice Q4 X4.length c4, .slice S4 Y4.length d4] 24) = v22 at *
 have y23 := ((B3.out.bel (b20H.out.trans g21.out))).cell (i := 0) rfl
 have y24 := ((B3.out.bel (b20H.out.trans g21.out))).cell (i := 1) rfl
 go_wp2_with fail
 obtain ⟨Z5, hZ5⟩ : ∃ Z, Z = [4621819117588971520, 13835058055282163712, 13835058055282163712, 4611686018427387904] := ⟨_, rfl⟩
 have C25 := Ho.mk (pPack (TT.out.bel (((((((g1.out.trans b6H.out).trans g7.out).trans b12H.out).trans b15H.out).trans g16.out).trans b20H.out).trans g21.out)) (inn (T3.out.bel ((g16.out.trans b20H.out).trans g21.out)).one (by rw [HX3.out]; decide)) (inn (T3.out.bel ((g16.out.trans b20H.out).trans g21.out)).two (by rw [HY3.out]; decide)) (by rw [HX3.out]; decide) (by rw [HY3.out]; decide) (Z := Z5) (z := true) (by rw [hZ5, HX3.out, HY3.out]; exact h5.1.symm) (by rw [HX3.out, HY3.out]; exact h5.2.symm))
 (with_reducible refine C25.out.mono ?_); rintro e v26 ⟨Q5, c5, rfl, t5, b27⟩
 have b27H := Ho.mk b27
 have T5 := Ho.mk t5
 clear C25 b27 t5
 have HZ5 := Ho.mk hZ5
 clear hZ5
 clear y23 y24
 go_wp2_with fail
 have K6 := Ho.mk ((Blk.new v26 [.float .f64 4607182418800017408, .float .f64 4611686018427387904] 50).old (.cells #[.float .f64 0, .float .f64 4607182418800017408] 50))
 have K7 := Ho.mk (Blk.new (v26.alloc (.cells #[.float .f64 4607182418800017408, .float .f64 4611686018427387904] 50)) [.float .f64 0, .float .f64 4607182418800017408] 50)
 simp only [World.size_alloc] at K7
 have g28 := Ho.mk (((Bel.refl v26).alloc (.cells #[.float .f64 4607182418800017408, .float .f64 4611686018427387904] 50)).alloc (.cells #[.float .f64 0, .float .f64 4607182418800017408] 50))
 generalize (v26.alloc (.cells #[.float .f64 4607182418800017408, .float .f64 4611686018427387904] 50)).alloc (.cells #[.float .f64 0, .float .f64 4607182418800017408] 50) = v29 at *
 have R30 := Ho.mk (litRow (X := [4607182418800017408, 4611686018427387904]) K6.out rfl (by decide) (n := 2) rfl (by decide))
 have R31 := Ho.mk (litRow (X := [0, 4607182418800017408]) K7.out rfl (by decide) (n := 2) rfl (by decide))
 obtain ⟨Z6, hZ6⟩ : ∃ Z : List Nat, Z = [] := ⟨_, rfl⟩
 have C32 := Ho.mk (pPack (TT.out.bel (((((((((g1.out.trans b6H.out).trans g7.out).trans b12H.out).trans b15H.out).trans g16.out).trans b20H.out).trans g21.out).trans b27H.out).trans g28.out)) (inn R30.out (by decide)) (inn R31.out (by decide)) (by decide) (by decide) (Z := Z6) (z := false) (hZ6.trans h6.1.symm) h6.2.symm)
 (with_reducible refine C32.out.mono ?_); rintro e v33 ⟨Q6, c6, rfl, t6, b34⟩
 have b34H := Ho.mk b34
 have T6 := Ho.mk t6
 clear C32 b34 t6
 clear hZ6
 go_wp2_with fail
 have K8 := Ho.mk (Blk.new v33 [.float .f64 4621819117588971520, .float .f64 13835058055282163712, .float .f64 13835058055282163712, .float .f64 4611686018427387904] 50)
 have g35 := Ho.mk ((Bel.refl v33).alloc (.cells #[.float .f64 4621819117588971520, .float .f64 13835058055282163712, .float .f64 13835058055282163712, .float .f64 4611686018427387904] 50))
 generalize v33.alloc (.cells #[.float .f64 4621819117588971520, .float .f64 13835058055282163712, .float .f64 13835058055282163712, .float .f64 4611686018427387904] 50) = v36 at *
 have R37 := Ho.mk (litRow (X := [4621819117588971520, 13835058055282163712, 13835058055282163712, 4611686018427387904]) K8.out rfl (by decide) (n := 4) rfl (by decide))
 have C38 := Ho.mk (pSameRow (z := true) (inn (T1.out.bel (((((((((g7.out.trans b12H.out).trans b15H.out).trans g16.out).trans b20H.out).trans g21.out).trans b27H.out).trans g28.out).trans b34H.out).trans g35.out)) (by rw [HZ1.out]; decide)) (inn R37.out (by decide)) (by rw [HZ1.out]; decide) (by decide) (by rw [HZ1.out]; decide))
 (with_reducible refine C38.out.mono ?_); rintro e v39 ⟨rfl, b40⟩
 have b40H := Ho.mk b40
 clear C38 b40
 have y41 := ((B3.out.bel ((((((b20H.out.trans g21.out).trans b27H.out).trans g28.out).trans b34H.out).trans g35.out).trans b40H.out))).cell (i := 0) rfl
 have y42 := ((B3.out.bel ((((((b20H.out.trans g21.out).trans b27H.out).trans g28.out).trans b34H.out).trans g35.out).trans b40H.out))).cell (i := 1) rfl
 go_wp2_with fail
 have K9 := Ho.mk ((Blk.new v39 [.float .f64 4621819117588971520, .float .f64 13835058055282163712, .float .f64 13835058055282163712] 50).old (.cells #[.float .f64 0, .float .f64 4611686018427387904, .float .f64 0] 50))
 have Ka := Ho.mk (Blk.new (v39.alloc (.cells #[.float .f64 4621819117588971520, .float .f64 13835058055282163712, .float .f64 13835058055282163712] 50)) [.float .f64 0, .float .f64 4611686018427387904, .float .f64 0] 50)
 simp only [World.size_alloc] at Ka
 have g43 := Ho.mk (((Bel.refl v39).alloc (.cells #[.float .f64 4621819117588971520, .float .f64 13835058055282163712, .float .f64 13835058055282163712] 50)).alloc (.cells #[.float .f64 0, .float .f64 4611686018427387904, .float .f64 0] 50))
 generalize (v39.alloc (.cells #[.float .f64 4621819117588971520, .float .f64 13835058055282163712, .float .f64 13835058055282163712] 50)).alloc (.cells #[.float .f64 0, .float .f64 4611686018427387904, .float .f64 0] 50) = v44 at *
 have R45 := Ho.mk (litRow (X := [4621819117588971520, 13835058055282163712, 13835058055282163712]) K9.out rfl (by decide) (n := 3) rfl (by decide))
 have R46 := Ho.mk (litRow (X := [0, 4611686018427387904, 0]) Ka.out rfl (by decide) (n := 3) rfl (by decide))
 have C47 := Ho.mk (pSame (z := true) (inn ((T3.out.bel ((((((((g16.out.trans b20H.out).trans g21.out).trans b27H.out).trans g28.out).trans b34H.out).trans g35.out).trans b40H.out).trans g43.out))).one (by rw [HX3.out]; decide)) (inn ((T3.out.bel ((((((((g16.out.trans b20H.out).trans g21.out).trans b27H.out).trans g28.out).trans b34H.out).trans g35.out).trans b40H.out).trans g43.out))).two (by rw [HY3.out]; decide)) (inn R45.out (by decide)) (inn R46.out (by decide)) (by rw [HX3.out]; decide) (by rw [HY3.out]; decide) (by decide) (by decide) (by rw [HX3.out, HY3.out]; decide))
 (with_reducible refine C47.out.mono ?_); rintro e v48 ⟨rfl, b49⟩
 have b49H := Ho.mk b49
 clear C47 b49
 clear y41 y42
 go_wp2_with fail
 have C50 := Ho.mk (pSameRow (z := true) (inn (T5.out.bel (((((g28.out.trans b34H.out).trans g35.out).trans b40H.out).trans g43.out).trans b49H.out)) (by rw [HZ5.out]; decide)) (inn (T1.out.bel ((((((((((((g7.out.trans b12H.out).trans b15H.out).trans g16.out).trans b20H.out).trans g21.out).trans b27H.out).trans g28.out).trans b34H.out).trans g35.out).trans b40H.out).trans g43.out).trans b49H.out)) (by rw [HZ1.out]; decide)) (by rw [HZ5.out]; decide) (by rw [HZ1.out]; decide) (by rw [HZ1.out, HZ5.out]; decide))
 (with_reducible refine C50.out.mono ?_); rintro e v51 ⟨rfl, b52⟩
 have b52H := Ho.mk b52
 clear C50 b52
 go_wp2
 go_ret
 exact ⟨rfl, (((((((((((((((g1.out.trans b6H.out).trans g7.out).trans b12H.out).trans b15H.out).trans g16.out).trans b20H.out).trans g21.out).trans b27H.out).trans g28.out).trans b34H.out).trans g35.out).trans b40H.out).trans g43.out).trans b49H.out).trans b52H.out)⟩
end Le
namespace Pf
open Go Go.ChangeShapes Go.WideShapes Go.ChangeAt Go.RowKit Go.Proofs.YtnbdoidccacdnaaGreatDoor Ow Dt Gp W0 W4 W5 Pg Pd
theorem wf_lt {b : Nat} (h : (Lit.float .f64 b).wf = true) : b < 2 * sgnW := by
 have : b < 2 ^ 64 := by simpa [Lit.wf] using h
 exact this
end Pf
namespace La
open Ieee Go Go.RowKit Go.Proofs Go.Proofs.YtnbdoidccacdnaaGreatDoor Ow Dt Gp I0 U0 W0 S4 S6 P0 M0 M1 M2 M3 P4 P5 P6 P8 Pa W4 W5 W1 W2 Pc Pe Pg Ph Pj Pk Lv
attribute [local go_sem ↓] Go.wp_at_zero Go.wp_at_succ
theorem h1 : ifR [4621819117588971520, 13837309855095848960, 13835058055282163712, 13830554455654793216] [4607182418800017408, 4611686018427387904, 13830554455654793216, 13835058055282163712] = ([4607182418800017408, 4611686018427387904, 4613937818241073152, 4616189618054758400], [0, 0, 0, 4607182418800017408]) ∧ errR [4621819117588971520, 13837309855095848960, 13835058055282163712, 13830554455654793216] [4607182418800017408, 4611686018427387904, 13830554455654793216, 13835058055282163712] = 0 := by decide +kernel
theorem h2 : ifR [] [] = ([], []) ∧ errR [] [] = 2 := by decide +kernel
end La
namespace Lc
open Ieee Go Go.RowKit Go.Proofs Go.Proofs.YtnbdoidccacdnaaGreatDoor Ow Dt Gp I0 U0 W0 S4 S6 P0 M0 M1 M2 M3 P4 P5 P6 P8 Pa W4 W5 W1 W2 Pc Pe Pg Ph Pj Pk Lv La
attribute [local go_sem ↓] Go.wp_at_zero Go.wp_at_succ
theorem fz_in {w : World} {b n c : Nat} {X : List Nat} (h : Fz w b X) (hn : X.length = n) (hl : n ≤ 100000) (h1 : n ≤ c) (h2 : c ≤ 9223372036854775807) : In w (.slice (some ⟨b, 0, none⟩) n c) X := by
 subst hn
 exact ⟨_, c, rfl, h1, h2, h.fr (by omega), fun e => by cases e⟩
end Lc
namespace Ld
open Ieee Go Go.RowKit Go.Proofs Go.Proofs.YtnbdoidccacdnaaGreatDoor Ow Dt Gp I0 U0 W0 S4 S6 P0 M0 M1 M2 M3 P4 P5 P6 P8 Pa W4 W5 W1 W2 Pc Pe Pg Ph Pj Pk Lv La Po Pq Lc Yh
attribute [local go_sem ↓] Go.wp_at_zero Go.wp_at_succ
theorem fz_zero {w : World} {b N : Nat} (K : Blk w b 50 (List.replicate N (.float .f64 0))) : Fz w b (List.replicate N 0) :=
 ⟨_, K, fun j hj => ⟨.float .f64 0, by rw [List.getElem?_replicate, if_pos (by simpa using hj)], 0, rfl, by decide, by
  have : j < N := by simpa using hj
  simp [nthN, List.getD_eq_getElem?_getD, List.getElem?_replicate, this, cn_zero]⟩⟩
theorem rep_set (N a : Nat) : (List.replicate N 0).set 0 a = delta N a := by
 apply List.ext_getElem (by simp [delta])
 intro j h1 h2
 have : j < N := by simpa using h1
 simp [delta, List.getElem_set]
 split <;> split <;> first | rfl | omega
theorem up_rep (N a : Nat) : upMap (fun _ => a) (List.replicate N 0) N = List.replicate N a := by
 have := upMap_all (fun _ => a) (List.replicate N 0)
 rw [List.length_replicate] at this
 rw [this]; simp
end Ld
namespace Lj
open Ieee Go Go.RowKit Go.Proofs Go.Proofs.YtnbdoidccacdnaaGreatDoor Ow Dt Gp I0 U0 W0 S4 S6 P0 M0 M1 M3 W4 W5 V2 P4 Y3 Yh Y1 P8 Pc Y5 Y6 Y7 Y8 Pk Lv Pj Le Pq Pc
open Go.Proofs.YtnbdoidccacdnaaGreatDoor.Ld (fz_zero rep_set up_rep)
open Go.Proofs.YtnbdoidccacdnaaGreatDoor.Lc (fz_in)
open Go.Proofs.YtnbdoidccacdnaaGreatDoor.S4 (infoF)
open Go.Proofs.YtnbdoidccacdnaaGreatDoor.W1 (Nm)
open Go.Proofs.YtnbdoidccacdnaaGreatDoor.Pa (upMap upMap_len upMap_zero upMap_set)
open Go.Proofs.YtnbdoidccacdnaaGreatDoor.W2 (P2 Up pw pw_ok fmul_P2_up)
open Go.Proofs.YtnbdoidccacdnaaGreatDoor.V1 (NI St ni_same ni_loop St.refl St.of_bel blk_keep ni_blk put_st)
open Go.Proofs.YtnbdoidccacdnaaGreatDoor.C6 (leaveAny)
open Go.Proofs.YtnbdoidccacdnaaGreatDoor.Pg (In)
attribute [local go_sem ↓] Go.wp_at_zero Go.wp_at_succ
theorem nm_fin {a : Nat} (h : Nm (cn a)) : frung a ≤ infR := by
 rcases Nat.lt_or_ge infR (frung a) with q | q
 ·have := h.fin; rw [cn_nan q] at this; exact absurd this (by decide)
 ·exact q
theorem eqA {r a : Nat} (h : r < 2 * sgnW) (ha : a < 2 * sgnW) (hn : Nm (cn a)) (e : cn r = cn a) : (FloatKind.f64.format.order r a != some .eq) = false := by
 have h1 := alike_cn h ha
 rw [e, decide_eq_true rfl] at h1
 unfold G3.alike at h1
 have h2 : (FloatKind.f64.format.order a a != some .eq) = false := by
  rw [show FloatKind.f64.format.order a a = some (compare (V a) (V a)) from order_le ha ha (nm_fin hn) (nm_fin hn), cmp_int, if_neg (by omega), if_pos rfl]; rfl
 rw [h2, Bool.and_false, Bool.or_false] at h1
 simp only [bne, h1, Bool.not_true]
theorem is0 {r : Nat} (h : r < 2 * sgnW) (e : cn r = 0) : (FloatKind.f64.format.order r 0 != some .eq) = false := ne_no (by rw [eq0 h, e]; rfl)
theorem wrap_shl {q N : Nat} (h : N = 2 ^ (q % 6 + 1)) : wrap64 (2 * 2 ^ (q % 6)) = (N : Int) := by
 subst h
 have : q % 6 < 6 := Nat.mod_lt _ (by decide)
 generalize q % 6 = m at *
 have hc : m = 0 ∨ m = 1 ∨ m = 2 ∨ m = 3 ∨ m = 4 ∨ m = 5 := by omega
 rcases hc with rfl | rfl | rfl | rfl | rfl | rfl <;> decide +kernel
theorem okR_fin : ∀ p : Fin 7, 1 ≤ p.val → okR (2 ^ p.val) = true := by decide +kernel
theorem one_fr {w : World} {b r : Nat} (K : Blk w b 50 [.float .f64 r]) (hr : r < 2 * sgnW) : Fr w (some ⟨b, 0, none⟩) [cn r] :=
 Fz.fr ⟨_, K, fun j hj => by
  obtain rfl : j = 0 := by simp at hj; omega
  exact ⟨_, rfl, r, rfl, hr, rfl⟩⟩ (by simp)
theorem P2_ok : ∀ p : Fin 8, P2 (1023 + p.val) < 2 * sgnW ∧ cn (P2 (1023 + p.val)) = P2 (1023 + p.val) := by decide +kernel
theorem one14 {r q : Nat} (w : World) (T : Tab w) (hr : r < 2 * sgnW) (hq : q < 256) :
  Calls Tryz.prog 10 #[.float .f64 r, .int .u8 (q : Int)] w (fun e w' => e = .returned (.bool true) ∧ Bel w w') := by
 have TT := Ho.mk T
 have HR := Ho.mk hr
 clear T hr
 go_enter Tryz.func10, Tryz.ntmps10
 go_wp2_with fail
 have C1 := Ho.mk (head14 w TT.out)
 (with_reducible refine C1.out.mono ?_); rintro e v2 ⟨rfl, b3⟩
 have b3H := Ho.mk b3
 clear C1 b3
 go_wp2_with fail
 have BM := Ho.mk (Blk.new v2 [.float .f64 r] 50)
 have g4 := Ho.mk ((Bel.refl v2).alloc (.cells #[.float .f64 r] 50))
 generalize v2.alloc (.cells #[.float .f64 r] 50) = v5 at *
 have C6 := Ho.mk (dMid (X := [cn r]) (n := 1) (c := 1) v5 (one_fr BM.out HR.out) rfl (by omega))
 (with_reducible refine C6.out.mono ?_); rintro e v7 ⟨z, rfl, b8, hz⟩
 have b8H := Ho.mk b8
 clear C6 b8
 cases z with
 | false =>
  clear hz
  go_wp2
  go_ret
  exact ⟨rfl, ((b3H.out.trans g4.out).trans b8H.out)⟩
 | true =>
  have U1 := Ho.mk (show Up (cn r) 7 from hz rfl 0 (by omega))
  clear hz
  obtain ⟨p, hp⟩ : ∃ p, p = q % 6 + 1 := ⟨_, rfl⟩
  have hp6 : p ≤ 6 := by omega
  have hp1 : 1 ≤ p := by omega
  obtain ⟨N, hN⟩ : ∃ N, N = 2 ^ p := ⟨_, rfl⟩
  have hN1 : 2 ≤ N := by rw [hN, two_half hp1]; have := Nat.two_pow_pos (p - 1); omega
  have hN2 : N ≤ 64 := by rw [hN]; exact Nat.pow_le_pow_right (by decide) hp6
  have HN := Ho.mk (And.intro (show N = 2 ^ (q % 6 + 1) by rw [hN, hp]) (And.intro hN (And.intro hp6 hp1)))
  clear hp hN hp6 hp1
  go_upto_region 4 with fail
  go_cut [6] from 21 to 24 (fun s6 wy => s6 = .int .i64 (N : Int) ∧ Ho (Bel v7 wy))
  case first =>
   go_wp2_with fail
   go_meet
   exact ⟨congrArg (Value.int .i64) (wrap_shl HN.out.1), ⟨Bel.refl _⟩⟩
  case rest =>
   obtain ⟨rfl, HB⟩ := hcut
   obtain ⟨wy, rfl⟩ : ∃ wy : World, wy = wc := ⟨_, rfl⟩
   have HW := Ho.mk (((b3H.out.trans g4.out).trans b8H.out).trans HB.out)
   go_upto_region 6 with (at_make; refine wpList_mk _ rfl _ _ 22 rfl 50 (.float .f64 0) 8 Tryz.underlying22 infoF rfl N rfl rfl (by omega) (by omega) ?_; intro w1 hk hb hs)
   have H := Ho.mk ((Hp.nil (Bel.refl wy)).new (e := .row wy.heap.size (List.replicate N 0)) hb (fz_zero hk) (Nat.le_refl _))
   clear hk hb hs
   generalize wy.heap.size = b1 at *
   go_upto_region 7 with (at_make; refine wpList_mk _ rfl _ _ 22 rfl 50 (.float .f64 0) 8 Tryz.underlying22 infoF rfl N rfl rfl (by omega) (by omega) ?_; intro w2 hk hb hs)
   replace H := Ho.mk (H.out.new (e := .row w1.heap.size (List.replicate N 0)) hb (fz_zero hk) (Nat.le_refl _))
   clear hk hb hs
   generalize w1.heap.size = b2 at *
   obtain ⟨_, y0, _, _⟩ := (H.out.row 1 rfl).at_ (i := 0) (by rw [List.length_replicate]; omega)
   have x0 := (H.out.row 1 rfl).free 0
   go_upto_region 8 with fail
   clear y0 x0
   replace H := Ho.mk (H.out.setF 1 rfl (0) HR.out rfl)
   simp only [List.set_cons_zero, List.set_cons_succ] at H
   generalize World.setCell w2 ⟨b1, 0, none⟩ (.float .f64 r) = w3 at *
   have eD : (List.replicate N 0).set 0 (cn r) = delta N (cn r) := rep_set N (cn r)
   rw [eD] at H
   clear eD
   go_wp2_with fail
   go_loopw [9] (fun v wr => ∃ (i : Nat), i ≤ N ∧ v = .int .i64 i ∧ Ho (Hp wy wr [.row b2 (upMap (fun _ => cn r) (List.replicate N 0) i), .row b1 (delta N (cn r))])) (fun v _ => N - (intOf v).toNat)
   case atStart => exact ⟨0, Nat.zero_le _, rfl, ⟨by simp only [upMap_zero]; exact H.out⟩⟩
   case round =>
    clear H
    obtain ⟨i, hi, rfl, H⟩ := hrel
    rcases Nat.lt_or_ge i N with hlt | hge
    ·have LU := Ho.mk (show (upMap (fun _ => cn r) (List.replicate N 0) i).length = N by rw [upMap_len _ _ (by rw [List.length_replicate]; exact hi), List.length_replicate])
     obtain ⟨_, y0, _, _⟩ := (H.out.row 0 rfl).at_ (i := i) (by rw [LU.out]; exact hlt)
     have x0 := (H.out.row 0 rfl).free i
     go_wp2_with fail
     clear y0 x0
     replace H := Ho.mk (H.out.setF 0 rfl (i) HR.out rfl)
     simp only [List.set_cons_zero, List.set_cons_succ] at H
     generalize World.setCell wr ⟨b2, i, none⟩ (.float .f64 r) = w4 at *
     have eU : (upMap (fun _ => cn r) (List.replicate N 0) i).set i (cn r) = (upMap (fun _ => cn r) (List.replicate N 0) (i + 1)) := upMap_set (fun _ => cn r) (List.replicate N 0) (by rw [List.length_replicate]; exact hlt)
     rw [eU] at H
     clear eU
     go_roundw
     case rel => exact ⟨i + 1, by omega, by simp, H⟩
     case measure => simp [intOf]; omega
    ·obtain rfl : i = N := by omega
     have eA : (upMap (fun _ => cn r) (List.replicate i 0) i) = List.replicate i (cn r) := up_rep i (cn r)
     rw [eA] at H
     clear eA
     have okN : okR i = true := by have := okR_fin ⟨p, by have := HN.out.2.2.1; omega⟩ HN.out.2.2.2; rw [HN.out.2.1]; exact this
     have hp2 : Nat.log2 i = p := by rw [HN.out.2.1]; exact Nat.log2_two_pow
     obtain ⟨X, hX⟩ : ∃ X, X = rfR (delta i (cn r)) := ⟨_, rfl⟩
     obtain ⟨Y, hY⟩ : ∃ Y, Y = rfR (List.replicate i (cn r)) := ⟨_, rfl⟩
     have EX := Ho.mk (show X = rfR (delta i (cn r)) ∧ 0 = errF (delta i (cn r)) from ⟨hX, by unfold errF; rw [delta_len, okN]; rfl⟩)
     have EY := Ho.mk (show Y = rfR (List.replicate i (cn r)) ∧ 0 = errF (List.replicate i (cn r)) from ⟨hY, by unfold errF; rw [List.length_replicate, okN]; rfl⟩)
     have p7 : p ≤ 7 := by have := HN.out.2.2.1; omega
     have VX := Ho.mk (show X.length = i ∧ ∀ k, k < i → nthN X k = if k ≤ 1 ∨ k % 2 = 0 then cn r else 0 by
      have e : X = rfftN p (delta (2 ^ p) (cn r)) := by rw [hX]; unfold rfR; rw [delta_len, okN, hp2]; rw [← HN.out.2.1]; rfl
      refine ⟨by rw [e, rfftN_len, ← HN.out.2.1], fun k hk => ?_⟩
      rw [e]; exact rfft_one HN.out.2.2.2 p7 (U1.out.mono (by omega)) (by rw [← HN.out.2.1]; exact hk))
     have VY := Ho.mk (show Y.length = i ∧ ∀ k, k < i → nthN Y k = if k = 0 then pw (cn r) p else 0 by
      have e : Y = rfftN p (List.replicate (2 ^ p) (cn r)) := by rw [hY]; unfold rfR; rw [List.length_replicate, okN, hp2]; rw [← HN.out.2.1]; rfl
      refine ⟨by rw [e, rfftN_len, ← HN.out.2.1], fun k hk => ?_⟩
      rw [e]; exact rfft_alike HN.out.2.2.2 p7 (U1.out.mono p7) (by rw [← HN.out.2.1]; exact hk))
     clear okN hp2 hX hY p7
     go_wp2_with fail
     have C5 := Ho.mk (pRfft (TT.out.bel (HW.out.trans H.out.bel)) (fz_in (n := i) (c := i) (H.out.row 1 rfl) (delta_len _ _) (by omega) (Nat.le_refl _) (by omega)) (by rw [delta_len]; omega) EX.out.1 EX.out.2)
     (with_reducible refine C5.out.mono ?_); rintro e w5 ⟨A5, c5, rfl, r5, b5⟩
     obtain ⟨bx, cx, e, _, _, H⟩ := H.out.rowF b5 r5 (by rw [VX.out.1]; omega)
     rw [VX.out.1] at e ⊢
     cases e
     replace H := Ho.mk H
     clear C5 r5 b5
     go_wp2_with fail
     have C5 := Ho.mk (pRfft (TT.out.bel (HW.out.trans H.out.bel)) (fz_in (n := i) (c := i) (H.out.row 1 rfl) List.length_replicate (by omega) (Nat.le_refl _) (by omega)) (by rw [List.length_replicate]; omega) EY.out.1 EY.out.2)
     (with_reducible refine C5.out.mono ?_); rintro e w6 ⟨A5, c5, rfl, r5, b5⟩
     obtain ⟨by0, cy, e, _, _, H⟩ := H.out.rowF b5 r5 (by rw [VY.out.1]; omega)
     rw [VY.out.1] at e ⊢
     cases e
     replace H := Ho.mk H
     clear C5 r5 b5
     have P2o := P2_ok ⟨p, by have := HN.out.2.2.1; omega⟩
     dsimp only at P2o
     obtain ⟨rz, wz, hm, bz, lz, cz⟩ := run_fmul (P := Tryz.prog) 50 HR.out P2o.1 w6
     rw [P2o.2, fmul_P2_up U1.out (by have := HN.out.2.2.1; omega) (by have := HN.out.2.2.1; omega)] at cz
     have cv := (conv_ok ⟨p, by have := HN.out.2.2.1; omega⟩).1
     dsimp only at cv
     rw [← HN.out.2.1] at cv
     obtain ⟨ra, ya, la, ca⟩ := (H.out.row 1 rfl).at_ (i := 0) (by rw [VX.out.1]; omega)
     rw [VX.out.2 0 (by omega)] at ca
     simp only [Nat.le_refl, Nat.zero_le, true_or, if_true] at ca
     obtain ⟨rb, yb, lb, cb⟩ := (H.out.row 1 rfl).at_ (i := 1) (by rw [VX.out.1]; omega)
     rw [VX.out.2 1 (by omega)] at cb
     simp only [Nat.le_refl, Nat.zero_le, true_or, if_true] at cb
     obtain ⟨rc, yc, lc, cc⟩ := (H.out.row 0 rfl).at_ (i := 0) (by rw [VY.out.1]; omega)
     rw [VY.out.2 0 (by omega)] at cc
     simp only [Nat.le_refl, Nat.zero_le, true_or, if_true] at cc
     have na := eqA la HR.out U1.out.nm ca
     have nb := eqA lb HR.out U1.out.nm cb
     have nc := eqA lc lz (by rw [cz]; exact (pw_ok U1.out (show p ≤ 7 by have := HN.out.2.2.1; omega)).1) (by rw [cc, cz])
     have BZ := Ho.mk (drew_bel w6 bz)
     have hi2 : (0 : Int) < (i : Int) ∧ (1 : Int) < (i : Int) := by omega
     obtain ⟨hi3, hi4⟩ := hi2
     clear la ca lb cb lc cc lz cz bz P2o
     go_upto_region 16 with fail
     clear ya yb yc na nb nc hm cv
     replace H := Ho.mk (H.out.grow BZ.out)
     clear BZ
     go_wp2_with fail
     go_loopw [14] (fun v wr => ∃ (j : Nat), 1 ≤ j ∧ j ≤ i ∧ v = .int .i64 j ∧ Ho (Hp wy wr [.row by0 Y, .row bx X, .row b2 (List.replicate i (cn r)), .row b1 (delta i (cn r))])) (fun v _ => i - (intOf v).toNat)
     case atStart => exact ⟨1, Nat.le_refl _, by omega, rfl, H⟩
     case round =>
      clear H
      obtain ⟨j, hj1, hj, rfl, H⟩ := hrel
      rcases Nat.lt_or_ge j i with hlt | hge
      ·obtain ⟨ry, y0, l0, c0⟩ := (H.out.row 0 rfl).at_ (i := j) (by rw [VY.out.1]; exact hlt)
       rw [VY.out.2 j hlt, if_neg (by omega)] at c0
       have n0 := is0 l0 c0
       clear l0 c0
       by_cases h1 : j = 1
       ·subst h1
        go_wp2_with fail
        go_roundw
        case rel => exact ⟨1 + 1, by omega, by omega, by simp, H⟩
        case measure => simp [intOf]; omega
       ·have hj3 : (1 : Int) < (j : Int) := by omega
        obtain ⟨rx, y1, l1, c1⟩ := (H.out.row 1 rfl).at_ (i := j) (by rw [VX.out.1]; exact hlt)
        rw [VX.out.2 j hlt] at c1
        by_cases h2 : j % 2 = 0
        ·rw [if_pos (.inr h2)] at c1
         have n1 := eqA l1 HR.out U1.out.nm c1
         have hm2 : (j : Int).tmod 2 = 0 := by rw [Int.tmod_eq_emod_of_nonneg (by omega)]; omega
         clear l1 c1
         go_wp2_with fail
         go_roundw
         case rel => exact ⟨j + 1, by omega, by omega, by simp, H⟩
         case measure => simp [intOf]; omega
        ·rw [if_neg (by omega)] at c1
         have n1 := is0 l1 c1
         have hm2 : (j : Int).tmod 2 = 1 := by rw [Int.tmod_eq_emod_of_nonneg (by omega)]; omega
         clear l1 c1
         go_wp2_with fail
         go_roundw
         case rel => exact ⟨j + 1, by omega, by omega, by simp, H⟩
         case measure => simp [intOf]; omega
      ·obtain rfl : j = i := by omega
       go_wp2
       go_ret
       exact ⟨rfl, HW.out.trans H.out.bel⟩
theorem one14_door (a : Nat) (q : Int) (w : World) (T : Tab w) (ha : (Lit.float .f64 a).wf = true) (hq : 0 ≤ q ∧ q ≤ 255) :
  Calls Tryz.prog 10 #[.float .f64 a, .int .u8 q] w (fun e w' => e = .returned (.bool true) ∧ Bel w w') := by
 obtain ⟨n, rfl⟩ : ∃ n : Nat, q = (n : Int) := ⟨q.toNat, by omega⟩
 exact one14 w T (Pf.wf_lt ha) (by omega)
end Lj
end Go.Proofs.YtnbdoidccacdnaaGreatDoor
