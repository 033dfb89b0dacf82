/-
  Joined, of what this claim leans on: W0, W1, W2, M3, Pg, Pn, Po, Y1, Ph, Y8, Z1, La, Lc, Ld, Z3, Lj, Z5, Lm.
-/
import Derived.Test.YtalbgklfhabnkaaGreatDoorJIrfftScale6
set_option linter.unusedVariables false
set_option linter.unusedSimpArgs false
set_option maxRecDepth 100000
set_option maxHeartbeats 16000000
namespace Go.Proofs.YtalbgklfhabnkaaGreatDoor
namespace W0
open Ieee Go Go.RowKit Go.Proofs.YtalbgklfhabnkaaGreatDoor Ow Gp Gq Gr G1 G2 G3 G4 G9
def fdiv (x y : Nat) : Nat := told ((double.read x).quotient (double.fractionBits + 2) (double.read y))
end W0
namespace W1
open Ieee Go Gp Gq Gr W0
theorem fadd_zero {x : Nat} (hx : Nm x) : fadd x 0 = x := by rw [fadd_fin hx nm_zero, show V 0 = 0 from by decide, Int.add_zero, R_self hx]
theorem fsub_zero {x : Nat} (hx : Nm x) : fsub x 0 = x := by rw [fsub_fin hx nm_zero, show V 0 = 0 from by decide, Int.sub_zero, R_self hx]
theorem fsub_self {x : Nat} (hx : Nm x) : fsub x x = 0 := by rw [fsub_fin hx hx, Int.sub_self, R_zero]
theorem zero_fmul {x : Nat} (hx : Nm x) : fmul 0 x = 0 := by rw [fmul_fin nm_zero hx, show V 0 = 0 from by decide, Int.zero_mul, R_zero]
theorem fng_fng {x : Nat} (hx : Nm x) : fng (fng x) = x := by
 obtain ⟨h1, h2⟩ := fng_facts hx
 obtain ⟨h3, h4⟩ := fng_facts h1
 exact nm_inj h3 hx (by rw [h4, h2]; omega)
end W1
namespace W2
open Ieee Go Gp Gq Gr W0 W1
theorem fmul_down {x p : Nat} (hx : Nm x) (hp : p ≤ 1022) : fmul x (P2 (1023 - p)) = R (V x) p := by
 rw [fmul_fin hx (P2_facts (by omega) (by omega)).1, V_P2 (c := 1074 - p) (by omega) (by omega) (by omega)]
 have := R_scale (V x) p (1074 - p)
 rwa [show p + (1074 - p) = 1074 from by omega] at this
theorem cls {x : Nat} (h : x < 2 * sgnW) (hc : cn x = x) : Nm x ∨ frung x = infR ∨ x = qn := by
 rcases Nat.lt_trichotomy (frung x) infR with q | q | q
 ·exact .inl ⟨h, q, hc⟩
 ·exact .inr (.inl q)
 ·exact .inr (.inr (by rw [← hc]; exact cn_nan q))
theorem read_P2 {e : Nat} (h : 1 ≤ e) (h2 : e ≤ 2046) : double.read (P2 e) = .number false bn ((e : Int) - 1075) := by
 obtain ⟨hn, hf⟩ := P2_facts h h2
 rw [read_fin hn.lt hn.fin, hf]
 have h1 : fneg (P2 e) = false := by
  unfold fneg; apply decide_eq_false; have := hn.fin; rw [hf] at this; have := infR_lt; omega
 have h3 : sig (P2 e) = bn := by
  unfold sig P2
  rw [if_neg (by have := Nat.mul_le_mul_right bn h; omega), Nat.mul_mod_left, Nat.add_zero]
 have h4 : plc (P2 e) = e - 1 := by
  unfold plc P2; rw [Nat.mul_div_cancel _ (by decide)]
 rw [h1, h3, h4]
 congr 1; omega
theorem told_shift (s : Bool) (m k : Nat) (p : Int) : told (some (.number s (m * 2 ^ k) (p - k))) = told (some (.number s m p)) := by
 by_cases h0 : m = 0
 ·subst h0; rw [Nat.zero_mul, told_num0, told_num0]
 ·rw [told_num s h0, told_num s (Nat.mul_ne_zero h0 (Nat.ne_of_gt (Nat.two_pow_pos _)))]
  congr 3
  unfold toX toS
  by_cases h1 : 0 ≤ p - k + 1074
  ·rw [show (-1074 - (p - (k : Int))).toNat = 0 from by omega, show (-1074 - p).toNat = 0 from by omega, Nat.mul_assoc, ← Nat.pow_add]
   congr 3; omega
  ·rw [show (p - (k : Int) + 1074).toNat = 0 from by omega, Nat.pow_zero, Nat.mul_one]
   by_cases h2 : 0 ≤ p + 1074
   ·rw [show (-1074 - p).toNat = 0 from by omega]
    have := rung_scale (m * 2 ^ (p + 1074).toNat) 0 (-1074 - (p - (k : Int))).toNat
    rw [← this, Nat.mul_assoc, ← Nat.pow_add]
    congr 3 <;> omega
   ·rw [show (p + 1074).toNat = 0 from by omega, Nat.pow_zero, Nat.mul_one]
    have := rung_scale m (-1074 - p).toNat k
    rw [← this]
    congr 1; omega
theorem fdiv_P2 {x p : Nat} (h : x < 2 * sgnW) (hc : cn x = x) (hp : p ≤ 1022) : fdiv x (P2 (1023 + p)) = fmul x (P2 (1023 - p)) := by
 unfold fdiv fmul
 rw [read_P2 (by omega) (by omega), read_P2 (by omega) (by omega)]
 rcases cls h hc with hx | hx | rfl
 ·rw [read_fin hx.lt hx.fin]
  simp only [Datum.quotient, Datum.product, Bool.xor_false, show bn ≠ 0 from by decide, if_false]
  have hs := (rung_split (frung x)).2.1
  generalize sig (frung x) = m at *
  have hfb : double.fractionBits = 52 := rfl
  have hlb : Nat.log2 bn = 52 := by decide
  rw [hfb, hlb]
  have hl : Nat.log2 m ≤ 52 := by
   by_cases h0 : m = 0
   ·subst h0; decide
   ·have : Nat.log2 m < 53 := (Nat.log2_lt h0).2 (by unfold bn at hs; omega)
    omega
  obtain ⟨e, he⟩ : ∃ e, 52 + 2 + 52 - Nat.log2 m = 52 + e := ⟨54 - Nat.log2 m, by omega⟩
  rw [he, Nat.shiftLeft_eq, Nat.pow_add, ← bn_eq, Nat.mul_comm bn, ← Nat.mul_assoc, Nat.mul_mod_left, Nat.mul_div_cancel _ (by decide)]
  simp only [bne_self_eq_false, Bool.toNat_false, Nat.add_zero]
  have a1 := told_shift (fneg x) m (e + 1) ((plc (frung x) : Int) - 1074 - p)
  have a2 := told_shift (fneg x) m 52 ((plc (frung x) : Int) - 1074 - p)
  rw [← bn_eq] at a2
  have e1 : (plc (frung x) : Int) - 1074 - (((1023 + p : Nat) : Int) - 1075) - ((52 + e : Nat) : Int) - 1 = (plc (frung x) : Int) - 1074 - p - ((e + 1 : Nat) : Int) := by omega
  have e2 : (plc (frung x) : Int) - 1074 + (((1023 - p : Nat) : Int) - 1075) = (plc (frung x) : Int) - 1074 - p - ((52 : Nat) : Int) := by omega
  rw [e1, e2, a2, ← a1, Nat.pow_succ]
  congr 3
  rw [Nat.mul_comm 2, Nat.mul_assoc]
 ·rw [read_inf h hx]
  simp [Datum.quotient, Datum.product, show bn ≠ 0 from by decide]
 ·rfl
theorem quo_dq {k : Nat} {x x' y y' : Datum} (h : dq x x') (g : dq y y') (h0 : ∀ s e, y ≠ .number s 0 e) : odq (x.quotient k y) (x'.quotient k y') := by
 cases x <;> cases x' <;> simp [dq] at h <;> cases y <;> cases y' <;> simp [dq] at g <;> try (simp [Datum.quotient, odq, dq]; done)
 ·rename_i s m e t n f s2 m2 e2 t2 n2 f2
  obtain ⟨rfl, rfl, h⟩ := h
  obtain ⟨rfl, rfl, g⟩ := g
  have hn0 : m2 ≠ 0 := fun e => h0 _ _ (by rw [e])
  rcases g with g | rfl
  ·exact (hn0 g).elim
  simp only [Datum.quotient, if_neg hn0, odq, dq]
  refine ⟨⟨trivial, trivial, ?_⟩, by simp⟩
  rcases h with rfl | rfl
  ·left; simp
  ·right; rfl
 ·rename_i s t s2 m e t2 n f
  subst h
  obtain ⟨rfl, rfl, g⟩ := g
  have hn0 : m ≠ 0 := fun e => h0 _ _ (by rw [e])
  rcases g with g | rfl
  ·exact (hn0 g).elim
  simp [Datum.quotient, odq, dq]
theorem fdiv_cn {a e : Nat} (ha : a < 2 * sgnW) (h : 1 ≤ e) (h2 : e ≤ 2046) : fdiv (cn a) (P2 e) = fdiv a (P2 e) := by
 unfold fdiv
 rw [read_P2 h h2]
 refine (told_odq (quo_dq (read_cn ha) (dq_refl _) ?_)).symm
 rintro s e' h
 have := congrArg (fun d => match d with | Datum.number _ m _ => m | _ => 1) h
 simp at this
 exact absurd this (by decide)
def pw (x k : Nat) : Nat := R (V x * 2 ^ k) 0
structure Up (x n : Nat) : Prop where
 nm : Nm x
 ok : V x = 0 ∨ (bn ≤ frung x ∧ frung x + n * bn < infR)
theorem Up.mono {x n m : Nat} (h : Up x n) (hm : m ≤ n) : Up x m := ⟨h.nm, h.ok.imp id fun ⟨a, b⟩ => ⟨a, by have := Nat.mul_le_mul_right bn hm; omega⟩⟩
theorem pw_ok {x n k : Nat} (h : Up x n) (hk : k ≤ n) : Nm (pw x k) ∧ V (pw x k) = V x * 2 ^ k := by
 unfold pw
 rcases h.ok with h0 | ⟨h1, h2⟩
 ·rw [h0, Int.zero_mul, R_zero]; exact ⟨nm_zero, by decide⟩
 ·have hkb : k * bn ≤ n * bn := Nat.mul_le_mul_right _ hk
  obtain ⟨a, b⟩ := R_exact (v := V x * 2 ^ k) (s := 0) (r := frung x + k * bn) (by
   rw [mag_up k h1, Int.natAbs_mul, V_abs, show ((2 : Int) ^ k).natAbs = 2 ^ k from by rw [Int.natAbs_pow]; rfl]; simp) (by omega)
  exact ⟨a, by simpa using b⟩
theorem pw_zero {x : Nat} (h : Nm x) : pw x 0 = x := by unfold pw; rw [Int.pow_zero, Int.mul_one, R_self h]
theorem pw_add {x n k : Nat} (h : Up x n) (hk : k + 1 ≤ n) : fadd (pw x k) (pw x k) = pw x (k + 1) := by
 obtain ⟨a, b⟩ := pw_ok h (show k ≤ n by omega)
 rw [fadd_fin a a, b]; unfold pw; rw [Int.pow_succ, ← Int.mul_assoc, show V x * 2 ^ k + V x * 2 ^ k = V x * 2 ^ k * 2 from by omega]
theorem pw_sub {x n k : Nat} (h : Up x n) (hk : k ≤ n) : fsub (pw x k) (pw x k) = 0 := fsub_self (pw_ok h hk).1
theorem pw_down {x n k : Nat} (h : Up x n) (hk : k ≤ n) (hk2 : k ≤ 1022) : fmul (pw x k) (P2 (1023 - k)) = x := by
 obtain ⟨a, b⟩ := pw_ok h hk
 rw [fmul_down a hk2, b]
 have := R_scale (V x) 0 k
 rw [Nat.zero_add] at this
 rw [this, R_self h.nm]
end W2
namespace M3
open Gp W0 W1 W2 M0 M1 M2
def TwOk (tw : Nat → Nat → Nat × Nat) (p : Nat) : Prop := ∀ q k, q < p → k < 2 ^ q → Nm (tw q k).1 ∧ Nm (tw q k).2
def delta (n a : Nat) : List Nat := (List.range n).map fun i => if i = 0 then a else 0
theorem delta_len (n a : Nat) : (delta n a).length = n := by simp [delta]
theorem nth_delta {n a i : Nat} (h : i < n) : nthG opsN (delta n a) i = if i = 0 then a else 0 := nthG_map opsN _ h
theorem nth_rep {n a i : Nat} (h : i < n) : nthG opsN (List.replicate n a) i = a := by
 rw [nthG_lt _ (by simpa using h)]; simp
theorem even_rep (n a : Nat) : evenG opsN (List.replicate (2 * n) a) = List.replicate n a := by
 refine ext_nth opsN (by rw [evenG_len]; simp; omega) fun i hi => ?_
 rw [evenG_len, List.length_replicate] at hi
 rw [nthG_even _ _ (by rw [List.length_replicate]; exact hi), nth_rep (by omega), nth_rep (by omega)]
theorem odd_rep (n a : Nat) : oddG opsN (List.replicate (2 * n) a) = List.replicate n a := by
 refine ext_nth opsN (by rw [oddG_len]; simp) fun i hi => ?_
 rw [oddG_len, List.length_replicate] at hi
 rw [nthG_odd _ _ (by rw [List.length_replicate]; exact hi), nth_rep (by omega), nth_rep (by omega)]
theorem even_delta (n a : Nat) : evenG opsN (delta (2 * n) a) = delta n a := by
 refine ext_nth opsN (by rw [evenG_len, delta_len, delta_len]; omega) fun i hi => ?_
 rw [evenG_len, delta_len] at hi
 rw [nthG_even _ _ (by rw [delta_len]; exact hi), nth_delta (by omega), nth_delta (by omega)]
 by_cases h : i = 0
 ·rw [if_pos h, if_pos (by omega)]
 ·rw [if_neg h, if_neg (by omega)]
theorem odd_delta (n a : Nat) : oddG opsN (delta (2 * n) a) = List.replicate n 0 := by
 refine ext_nth opsN (by rw [oddG_len, delta_len]; simp) fun i hi => ?_
 rw [oddG_len, delta_len] at hi
 rw [nthG_odd _ _ (by rw [delta_len]; exact hi), nth_delta (by omega), nth_rep (by omega), if_neg (by omega)]
theorem tw_zero {tw : Nat → Nat × Nat} {k : Nat} (h : Nm (tw k).1 ∧ Nm (tw k).2) : tw1 opsN tw k 0 0 = (0, 0) := by
 unfold tw1
 split
 ·rfl
 ·show (fadd (fmul 0 (tw k).1) (fmul 0 (tw k).2), fsub (fmul 0 (tw k).1) (fmul 0 (tw k).2)) = _
  rw [zero_fmul h.1, zero_fmul h.2, fadd_zero nm_zero, fsub_zero nm_zero]
theorem add0 {x : Nat} (h : Nm x) : opsN.add x 0 = x := fadd_zero h
theorem sub0 {x : Nat} (h : Nm x) : opsN.sub x 0 = x := fsub_zero h
theorem rec_one (tw : Nat → Nat → Nat × Nat) (p : Nat) (ht : TwOk tw p) {a b : Nat} (ha : Nm a) (hb : Nm b) :
  recG opsN tw p (delta (2 ^ p) a, delta (2 ^ p) b) = (List.replicate (2 ^ p) a, List.replicate (2 ^ p) b) := by
 induction p generalizing a b with
 | zero => rfl
 | succ p ih =>
  have ih' := fun {a b} (ha : Nm a) (hb : Nm b) => ih (fun q k hq hk => ht q k (by omega) hk) (a := a) (b := b) ha hb
  have hz : List.replicate (2 ^ p) 0 = delta (2 ^ p) 0 := by
   refine ext_nth opsN (by rw [delta_len]; simp) fun i hi => ?_
   have hi' : i < 2 ^ p := by simpa using hi
   rw [nth_rep hi', nth_delta hi']; split <;> rfl
  have e1 := ih' ha hb
  have e2 := ih' nm_zero nm_zero
  rw [← hz] at e2
  show mergeL opsN (2 ^ p) (tw p) _ _ = _
  rw [two_pow, even_delta, even_delta, odd_delta, odd_delta, e1, e2]
  unfold mergeL appP
  have hh : ∀ k, k < 2 ^ p → tw1 opsN (tw p) k (nthG opsN (List.replicate (2 ^ p) 0) k) (nthG opsN (List.replicate (2 ^ p) 0) k) = (0, 0) := fun k hk => by
   rw [nth_rep hk, tw_zero (ht p k (by omega) hk)]
  have mm : ∀ {x : Nat} (hx : Nm x) (f : Nat → Nat → Nat) (g : Nat × Nat → Nat) (hg : g (0, 0) = 0) (hf : f x 0 = x), (List.range (2 ^ p)).map (fun k => f (nthG opsN (List.replicate (2 ^ p) x) k) (g (tw1 opsN (tw p) k (nthG opsN (List.replicate (2 ^ p) 0) k) (nthG opsN (List.replicate (2 ^ p) 0) k)))) = List.replicate (2 ^ p) x := fun {x} hx f g hg hf => by
   refine ext_nth opsN (by simp) fun i hi => ?_
   have hi' : i < 2 ^ p := by simpa using hi
   rw [nthG_map _ _ hi', hh i hi', hg, nth_rep hi', hf]
  have rr : ∀ x : Nat, List.replicate (2 ^ p) x ++ List.replicate (2 ^ p) x = List.replicate (2 * 2 ^ p) x := fun x => by rw [List.replicate_append_replicate]; congr 1; omega
  dsimp only
  rw [mm ha opsN.add (·.1) rfl (add0 ha), mm hb opsN.add (·.2) rfl (add0 hb), mm ha opsN.sub (·.1) rfl (sub0 ha), mm hb opsN.sub (·.2) rfl (sub0 hb), rr, rr]
theorem rec_alike (tw : Nat → Nat → Nat × Nat) (p : Nat) (ht : TwOk tw p) {a b : Nat} (ha : Up a p) (hb : Up b p) :
  recG opsN tw p (List.replicate (2 ^ p) a, List.replicate (2 ^ p) b) = (delta (2 ^ p) (pw a p), delta (2 ^ p) (pw b p)) := by
 induction p with
 | zero =>
  show ([a], [b]) = _
  rw [pw_zero ha.nm, pw_zero hb.nm]; rfl
 | succ p ih =>
  have e1 := ih (fun q k hq hk => ht q k (by omega) hk) (ha.mono (by omega)) (hb.mono (by omega))
  show mergeL opsN (2 ^ p) (tw p) _ _ = _
  rw [two_pow, even_rep, even_rep, odd_rep, odd_rep, e1]
  unfold mergeL appP
  have hh : ∀ k, k < 2 ^ p → tw1 opsN (tw p) k (nthG opsN (delta (2 ^ p) (pw a p)) k) (nthG opsN (delta (2 ^ p) (pw b p)) k) = if k = 0 then (pw a p, pw b p) else (0, 0) := fun k hk => by
   rw [nth_delta hk, nth_delta hk]
   by_cases h : k = 0
   ·subst h; simp only [if_true]; unfold tw1; rw [if_pos rfl]
   ·simp only [if_neg h]; rw [tw_zero (ht p k (by omega) hk)]
  have mm : ∀ {x y : Nat} (f : Nat → Nat → Nat) (g : Nat × Nat → Nat) (hg : g (0, 0) = 0) (hf0 : f 0 0 = 0) (hf : f x (g (pw a p, pw b p)) = y),
    (List.range (2 ^ p)).map (fun k => f (nthG opsN (delta (2 ^ p) x) k) (g (tw1 opsN (tw p) k (nthG opsN (delta (2 ^ p) (pw a p)) k) (nthG opsN (delta (2 ^ p) (pw b p)) k)))) = delta (2 ^ p) y := fun {x y} f g hg hf0 hf => by
   refine ext_nth opsN (by rw [delta_len]; simp) fun i hi => ?_
   have hi' : i < 2 ^ p := by simpa using hi
   rw [nthG_map _ _ hi', hh i hi', nth_delta hi', nth_delta hi']
   by_cases h : i = 0
   ·simp only [if_pos h]; exact hf
   ·simp only [if_neg h]; rw [hg, hf0]
  have rr : ∀ x : Nat, delta (2 ^ p) x ++ delta (2 ^ p) 0 = delta (2 * 2 ^ p) x := fun x => by
   refine ext_nth opsN (by rw [List.length_append, delta_len, delta_len, delta_len]; omega) fun i hi => ?_
   rw [List.length_append, delta_len, delta_len] at hi
   rw [nthG_app, delta_len, nth_delta (show i < 2 * 2 ^ p by omega)]
   split
   ·rw [nth_delta (by assumption)]
   ·have := Nat.two_pow_pos p
    rw [nth_delta (by omega), if_neg (show ¬ i = 0 by omega)]; split <;> rfl
  dsimp only
  rw [mm opsN.add (·.1) rfl (add0 nm_zero) (pw_add ha (Nat.le_refl _)), mm opsN.add (·.2) rfl (add0 nm_zero) (pw_add hb (Nat.le_refl _)), mm opsN.sub (·.1) rfl (sub0 nm_zero) (pw_sub ha (by omega)), mm opsN.sub (·.2) rfl (sub0 nm_zero) (pw_sub hb (by omega)), rr, rr]
end M3
namespace Pg
open Ieee Go Go.RowKit Go.Proofs Go.Proofs.YtalbgklfhabnkaaGreatDoor Ow Dt Gp I0 U0 W0 S4 S6 P0 M0 M1 M2 M3 P4 P5 P6 P8 Pa Pb W4 W5 W1 W2 Pc Pe
attribute [local go_sem ↓] Go.wp_at_zero Go.wp_at_succ
def okP (n m : Nat) : Bool := decide (n = m ∧ 0 ≤ logI n)
def invR (X Y : List Nat) : List Nat × List Nat := if okP X.length Y.length then invN (Nat.log2 X.length) (X, Y) else (X, Y)
def errR (X Y : List Nat) : Int := if okP X.length Y.length then 0 else 2
end Pg
namespace Pn
open Ieee Go Gp Gq Gr G9 W0 W1 W2 Pc
theorem told_opp (s : Bool) (m : Nat) (e : Int) : told (some (.number (!s) m e)) = fng (told (some (.number s m e))) := by
 by_cases h0 : m = 0
 ·subst h0; rw [told_num0, told_num0]; decide
 ·rw [told_num _ h0, told_num _ h0]
  have hl : min (rung (toX m e) (toS e)) infR < sgnW := Nat.lt_of_le_of_lt (Nat.min_le_right _ _) infR_lt
  rw [← neg_word s hl, neg_cn (word_lt2 _ hl)]
theorem told_oppI (s : Bool) : told (some (.infinity (!s))) = fng (told (some (.infinity s))) := by cases s <;> decide
theorem fmul_fng {y e : Nat} (h : y < 2 * sgnW) (hc : cn y = y) (h1 : 1 ≤ e) (h2 : e ≤ 2046) : fmul (fng y) (P2 e) = fng (fmul y (P2 e)) := by
 have hP := (P2_facts h1 h2).1
 have e1 : fng y = cn (Op.negFloat .f64 y) := rfl
 have e2 : fmul (cn (Op.negFloat .f64 y)) (P2 e) = fmul (Op.negFloat .f64 y) (P2 e) := by
  have := fmul_cn (fng_lt' h) hP.lt
  rwa [hP.cl] at this
 rw [e1, e2, xor_top' y h]
 obtain ⟨n1, n2⟩ := word_neg (!fneg y) (word_split h).2
 have nl := word_lt2 (!fneg y) (word_split h).2
 unfold fmul
 rw [read_P2 h1 h2]
 rcases cls h hc with hx | hx | rfl
 ·rw [read_fin hx.lt hx.fin, read_fin nl (by rw [n2]; exact hx.fin), n1, n2]
  simp only [Datum.product, Bool.xor_false]
  exact told_opp _ _ _
 ·rw [read_inf h hx, read_inf nl (by rw [n2]; exact hx), n1]
  simp only [Datum.product, show bn ≠ 0 from by decide, if_false, Bool.xor_false]
  exact told_oppI _
 ·have g : infR < frung qn := by decide
  rw [read_nan h g, read_nan nl (by rw [n2]; exact g)]
  show qn = fng qn
  decide
def ov (p x : Nat) : Nat := fdiv x (P2 (1023 + p))
end Pn
namespace Po
open Ieee Go Gp Gq Gr G9 U0 W0 W1 W2 M0 M1 M2 M3 Pc Pn
def tabOk (p : Nat) : Bool := (List.range (2 ^ (p - 1))).all fun j => nmB (tabW p j).1 && nmB (tabW p j).2
theorem tab_ok : ∀ p : Fin 8, tabOk p.val = true := by decide +kernel
theorem twp_ok {p : Nat} (hp : p ≤ 7) : TwOk (twp p) p := by
 intro q k hq hk
 have h := tab_ok ⟨p, by omega⟩
 unfold tabOk at h
 simp only [List.all_eq_true, List.mem_range, Bool.and_eq_true] at h
 have hlt : k * 2 ^ (p - (q + 1)) < 2 ^ (p - 1) := by
  have := Nat.mul_lt_mul_of_pos_right hk (Nat.two_pow_pos (p - (q + 1)))
  rw [← Nat.pow_add, show q + (p - (q + 1)) = p - 1 by omega] at this
  exact this
 obtain ⟨a, b⟩ := h _ hlt
 exact ⟨nm_of a, nm_of b⟩
theorem delta_map (n a : Nat) (g : Nat → Nat) (h : g 0 = 0) : (delta n a).map g = delta n (g a) := by
 unfold delta
 rw [List.map_map]
 apply List.map_congr_left
 intro i _
 show g (if i = 0 then a else 0) = if i = 0 then g a else 0
 split
 ·rfl
 ·exact h
theorem fng_zero : fng 0 = 0 := by decide
theorem into_one {p a b : Nat} (hp : p ≤ 7) (ha : Nm a) (hb : Nm b) : intoN p (delta (2 ^ p) a, delta (2 ^ p) b) = (List.replicate (2 ^ p) a, List.replicate (2 ^ p) b) := by
 unfold intoN
 rw [into_rec opsN (tabW p) (twp p) hp (fun _ _ _ _ => rfl) _ (delta_len _ _) (delta_len _ _)]
 exact rec_one (twp p) p (twp_ok hp) ha hb
theorem into_alike {p a b : Nat} (hp : p ≤ 7) (ha : Up a p) (hb : Up b p) : intoN p (List.replicate (2 ^ p) a, List.replicate (2 ^ p) b) = (delta (2 ^ p) (pw a p), delta (2 ^ p) (pw b p)) := by
 unfold intoN
 rw [into_rec opsN (tabW p) (twp p) hp (fun _ _ _ _ => rfl) _ List.length_replicate List.length_replicate]
 exact rec_alike (twp p) p (twp_ok hp) ha hb
theorem back {p y : Nat} (hp : p ≤ 7) (h : Nm y) : fng (fmul (fng y) (P2 (1023 - p))) = ov p y := by
 obtain ⟨a, _⟩ := fng_facts h
 rw [← fmul_fng a.lt a.cl (by omega) (by omega), fng_fng h]
 exact (fdiv_P2 h.lt h.cl (by omega)).symm
theorem inv_one {p a b : Nat} (hp : p ≤ 7) (ha : Nm a) (hb : Nm b) : invN p (delta (2 ^ p) a, delta (2 ^ p) b) = (List.replicate (2 ^ p) (ov p a), List.replicate (2 ^ p) (ov p b)) := by
 unfold invN
 rw [delta_map _ _ _ fng_zero, into_one hp ha (fng_facts hb).1]
 simp only [List.map_replicate]
 rw [back hp hb, ← fdiv_P2 ha.lt ha.cl (by omega)]; rfl
theorem up_fng {b n : Nat} (h : Up b n) : Up (fng b) n := by
  obtain ⟨h1, h2⟩ := fng_facts h.nm
  refine ⟨h1, ?_⟩
  rcases h.ok with q | q
  · exact .inl (by rw [h2, q]; rfl)
  · refine .inr ?_
    have hs := (word_split h.nm.lt).2
    have e : frung (fng b) = frung b := by
      unfold fng
      rw [xor_top' b h.nm.lt, word_parts _ (Nat.le_of_lt h.nm.fin), if_neg (by have : 0 < bn := by decide
                                                                               omega)]
      exact (word_neg _ hs).2
    rw [e]; exact q
theorem inv_alike {p a b : Nat} (hp : p ≤ 7) (ha : Up a p) (hb : Up b p) : invN p (List.replicate (2 ^ p) a, List.replicate (2 ^ p) b) = (delta (2 ^ p) a, delta (2 ^ p) b) := by
 have hP : Nm (P2 (1023 - p)) := (P2_facts (by omega) (by omega)).1
 have z : fmul 0 (P2 (1023 - p)) = 0 := zero_fmul hP
 unfold invN
 rw [List.map_replicate, into_alike hp ha (up_fng hb)]
 simp only
 rw [delta_map _ _ _ z, delta_map _ _ _ z, delta_map _ _ _ fng_zero, pw_down ha (Nat.le_refl _) (by omega), pw_down (up_fng hb) (Nat.le_refl _) (by omega), fng_fng hb.nm]
end Po
namespace Y1
open Ieee Go Gp Gq Gr G9 U0 W0 W1 W2 M0 M1 M2 M3 Pc Pn Po
theorem half_P2 : halfW = P2 (1023 - 1) := by decide +kernel
theorem half_nm : Nm halfW := by rw [half_P2]; exact (P2_facts (by decide) (by decide)).1
theorem tab_nm {p k : Nat} (hp : p ≤ 7) (hk : k < 2 ^ (p - 1)) : Nm (tabW p k).1 ∧ Nm (tabW p k).2 := by
 have h := tab_ok ⟨p, by omega⟩
 unfold tabOk at h
 simp only [List.all_eq_true, List.mem_range, Bool.and_eq_true] at h
 exact ⟨nm_of (h k hk).1, nm_of (h k hk).2⟩
end Y1
namespace Ph
open Ieee Go Go.RowKit Go.Proofs Go.Proofs.YtalbgklfhabnkaaGreatDoor Ow Dt Gp I0 U0 W0 S4 S6 P0 M0 M1 M2 M3 P4 P5 P6 P8 Pa Pb W4 W5 W1 W2 Pc Pe Pg
attribute [local go_sem ↓] Go.wp_at_zero Go.wp_at_succ
def ifR (X Y : List Nat) : List Nat × List Nat := if okP X.length Y.length then invR X Y else ([], [])
end Ph
namespace Y8
open Ieee Go Go.RowKit Go.Proofs Go.Proofs.YtalbgklfhabnkaaGreatDoor Ow Dt Gp I0 U0 W0 S4 S6 P0 M0 M1 M3 W4 W5 V2 P4 Y3 Yh Y1 P8 Pc Y6
open Go.Proofs.YtalbgklfhabnkaaGreatDoor.V1 (NI St ni_same ni_loop St.refl St.of_bel blk_keep ni_blk put_st)
open Go.Proofs.YtalbgklfhabnkaaGreatDoor.C6 (leaveAny)
open Go.Proofs.YtalbgklfhabnkaaGreatDoor.Pg (In)
attribute [local go_sem ↓] Go.wp_at_zero Go.wp_at_succ
theorem eq0 {r : Nat} (h : r < 2 * sgnW) : (FloatKind.f64.format.order r 0 == some .eq) = decide (cn r = 0) := by
 have h1 := alike_cn h (show 0 < 2 * sgnW by decide)
 rw [cn_zero] at h1
 unfold G3.alike at h1
 have h2 : (FloatKind.f64.format.order 0 0 != some .eq) = false := by decide +kernel
 rw [h2, Bool.and_false, Bool.or_false] at h1
 exact h1
theorem ne_no {r : Nat} (h : (FloatKind.f64.format.order r 0 == some .eq) = true) : (FloatKind.f64.format.order r 0 != some .eq) = false := by simp [bne, h]
end Y8
namespace Z1
open Ieee Go Gp Gq Gr G9 U0 W0 W1 W2 M0 M1 M2 M3 Pc Pn Po Y1
theorem hlf_zero : hlf opsN 0 = 0 := zero_fmul half_nm
theorem hlf_two {a : Nat} (ha : Up a 1) : hlf opsN (opsN.add a a) = a := by
 show fmul (fadd a a) halfW = a
 have := pw_add ha (k := 0) (by omega)
 rw [pw_zero ha.nm] at this
 rw [this, half_P2]
 exact pw_down ha (by omega) (by omega)
theorem mul_zero {w : Nat × Nat} (h : Nm w.1 ∧ Nm w.2) : cmul opsN 0 0 w.1 w.2 = (0, 0) := by
 have e1 : opsN.mul 0 w.1 = 0 := zero_fmul h.1
 have e2 : opsN.mul 0 w.2 = 0 := zero_fmul h.2
 have e3 : opsN.sub 0 0 = 0 := fsub_zero nm_zero
 have e4 : opsN.add 0 0 = 0 := fadd_zero nm_zero
 unfold cmul
 rw [e1, e2, e3, e4]
theorem irfft_alike {p a i : Nat} {X : List Nat} (hp : 1 ≤ p) (hp7 : p ≤ 7) (ha : Up a p) (hX : ∀ k, k < 2 ^ p → nthN X k = if k ≤ 1 ∨ k % 2 = 0 then a else 0) (hi : i < 2 ^ p) : nthN (irfftN p X) i = if i = 0 then a else 0 := by
 have hm : 0 < 2 ^ (p - 1) := Nat.two_pow_pos _
 have h2 := two_half hp
 have a1 : Up a 1 := ha.mono hp
 have ss : opsN.sub a a = 0 := fsub_self a1.nm
 have e3 : opsN.sub 0 0 = 0 := fsub_zero nm_zero
 have e4 : opsN.add 0 0 = 0 := fadd_zero nm_zero
 have e5 : opsN.sub a 0 = a := fsub_zero a1.nm
 have el : ∀ n, opsN.lit n = n := fun _ => rfl
 have at_ : ∀ k, k < 2 ^ (p - 1) → backAt opsN (tabW p) (2 ^ (p - 1)) X k = (a, 0) := by
  intro k hk
  unfold backAt
  have x0 : ∀ j, j < 2 ^ p → nthG opsN X j = if j ≤ 1 ∨ j % 2 = 0 then a else 0 := hX
  by_cases h0 : k = 0
  ·rw [if_pos h0, x0 0 (by omega), x0 1 (by omega), if_pos (by omega), if_pos (by omega), hlf_two a1, ss, hlf_zero]
  ·rw [if_neg h0, x0 _ (by omega), x0 _ (by omega), x0 _ (by omega), x0 _ (by omega), if_pos (by omega), if_neg (by omega), if_pos (by omega), if_neg (by omega)]
   unfold backG
   simp only [hlf_two a1, ss, e3, e4, hlf_zero, el, mul_zero (tab_nm hp7 hk), e5]
 have z : irfftZ p X = (List.replicate (2 ^ (p - 1)) a, List.replicate (2 ^ (p - 1)) 0) := by
  unfold irfftZ
  refine Prod.ext ?_ ?_ <;> (refine List.ext_getElem (by simp) fun j h1 h2 => ?_; simp only [List.length_map, List.length_range] at h1; simp [at_ j h1])
 have z0 : Up 0 (p - 1) := ⟨nm_zero, .inl (by decide)⟩
 unfold irfftN
 rw [zip_at hi, z, inv_alike (by omega) (ha.mono (by omega)) z0]
 have nd : ∀ b, nthN (delta (2 ^ (p - 1)) b) (i / 2) = if i / 2 = 0 then b else 0 := fun b => nth_delta (by omega)
 simp only [nd]
 by_cases q0 : i = 0
 ·subst q0; simp
 ·rw [if_neg q0]
  split
  ·rw [if_neg (by omega)]
  ·split <;> rfl
def Hd (a : Nat) : Prop := Nm a ∧ (V a = 0 ∨ 2 * bn ≤ frung a)
theorem hlf_ok {a : Nat} (h : Hd a) : Nm (hlf opsN a) ∧ V (hlf opsN a) * 2 ^ 1 = V a := by
 have e : hlf opsN a = R (V a) 1 := by
  show fmul a halfW = _
  rw [half_P2]; exact fmul_down h.1 (by omega)
 rw [e]
 rcases h.2 with h0 | h1
 ·rw [h0, R_zero]; exact ⟨nm_zero, by decide⟩
 ·have m := mag_up (r := frung a - bn) 1 (by omega)
  rw [Nat.one_mul, Nat.sub_add_cancel (by omega)] at m
  exact R_exact (r := frung a - bn) (by rw [V_abs, m]) (by have := h.1.fin; omega)
theorem ov_hlf {p a : Nat} (hp : 1 ≤ p) (hp7 : p ≤ 7) (h : Hd a) : ov (p - 1) (hlf opsN a) = ov p a := by
 obtain ⟨h1, h2⟩ := hlf_ok h
 unfold ov
 rw [fdiv_P2 h1.lt h1.cl (by omega), fdiv_P2 h.1.lt h.1.cl (by omega), fmul_down h1 (by omega), fmul_down h.1 (by omega), ← h2, show p = p - 1 + 1 by omega, R_scale]
 simp
theorem irfft_one {p a i : Nat} {X : List Nat} (hp : 1 ≤ p) (hp7 : p ≤ 7) (ha : Hd a) (hX : ∀ k, k < 2 ^ p → nthN X k = if k = 0 then a else 0) (hi : i < 2 ^ p) : nthN (irfftN p X) i = ov p a := by
 have hm : 0 < 2 ^ (p - 1) := Nat.two_pow_pos _
 have h2 := two_half hp
 have e3 : opsN.sub 0 0 = 0 := fsub_zero nm_zero
 have e4 : opsN.add 0 0 = 0 := fadd_zero nm_zero
 have e5 : opsN.sub a 0 = a := fsub_zero ha.1
 have e6 : opsN.add a 0 = a := fadd_zero ha.1
 have el : ∀ n, opsN.lit n = n := fun _ => rfl
 have at_ : ∀ k, k < 2 ^ (p - 1) → backAt opsN (tabW p) (2 ^ (p - 1)) X k = if k = 0 then (hlf opsN a, hlf opsN a) else (0, 0) := by
  intro k hk
  unfold backAt
  have x0 : ∀ j, j < 2 ^ p → nthG opsN X j = if j = 0 then a else 0 := hX
  by_cases h0 : k = 0
  ·rw [if_pos h0, if_pos h0, x0 0 (by omega), x0 1 (by omega), if_pos rfl, if_neg (by omega), e5, e6]
  ·rw [if_neg h0, if_neg h0, x0 _ (by omega), x0 _ (by omega), x0 _ (by omega), x0 _ (by omega), if_neg (by omega), if_neg (by omega), if_neg (by omega), if_neg (by omega)]
   unfold backG
   simp only [e3, e4, hlf_zero, el, mul_zero (tab_nm hp7 hk)]
 have z : irfftZ p X = (delta (2 ^ (p - 1)) (hlf opsN a), delta (2 ^ (p - 1)) (hlf opsN a)) := by
  unfold irfftZ
  refine Prod.ext ?_ ?_ <;> (refine List.ext_getElem (by simp [delta]) fun j h1 h2 => ?_; simp only [List.length_map, List.length_range] at h1; simp only [List.getElem_map, List.getElem_range, at_ j h1, delta]; split <;> rfl)
 obtain ⟨k1, _⟩ := hlf_ok ha
 unfold irfftN
 rw [zip_at hi, z, inv_one (by omega) k1 k1, ov_hlf hp hp7 ha]
 have nd : nthN (List.replicate (2 ^ (p - 1)) (ov p a)) (i / 2) = ov p a := nth_rep (by omega)
 simp only [nd]
 split <;> rfl
end Z1
namespace La
open Ieee Go Go.RowKit Go.Proofs Go.Proofs.YtalbgklfhabnkaaGreatDoor Ow Dt Gp I0 U0 W0 S4 S6 P0 M0 M1 M2 M3 P4 P5 P6 P8 Pa Pb W4 W5 W1 W2 Pc Pe Pg Ph Pk Lv
attribute [local go_sem ↓] Go.wp_at_zero Go.wp_at_succ
theorem h1 : ifR [4621819117588971520, 13837309855095848960, 13835058055282163712, 13830554455654793216] [4607182418800017408, 4611686018427387904, 13830554455654793216, 13835058055282163712] = ([4607182418800017408, 4611686018427387904, 4613937818241073152, 4616189618054758400], [0, 0, 0, 4607182418800017408]) ∧ errR [4621819117588971520, 13837309855095848960, 13835058055282163712, 13830554455654793216] [4607182418800017408, 4611686018427387904, 13830554455654793216, 13835058055282163712] = 0 := by decide +kernel
theorem h2 : ifR [] [] = ([], []) ∧ errR [] [] = 2 := by decide +kernel
theorem h3 : invR [4619567317775286272, 4613937818241073152] [4611686018427387904, 0] = ([4617315517961601024, 4611686018427387904], [4607182418800017408, 4607182418800017408]) ∧ errR [4619567317775286272, 4613937818241073152] [4611686018427387904, 0] = 0 := by decide +kernel
theorem h4 : [4613937818241073152].map fng = [13837309855095848960] := by decide +kernel
end La
namespace Lc
open Ieee Go Go.RowKit Go.Proofs Go.Proofs.YtalbgklfhabnkaaGreatDoor Ow Dt Gp I0 U0 W0 S4 S6 P0 M0 M1 M2 M3 P4 P5 P6 P8 Pa Pb W4 W5 W1 W2 Pc Pe Pg Ph Pk Lv La Pn
attribute [local go_sem ↓] Go.wp_at_zero Go.wp_at_succ
theorem run_ov {P : Program} {p : Nat} (hp : p ≤ 7) (t : TypeId) {a : Nat} (ha : a < 2 * sgnW) (w : World) :
  ∃ r w', (binOp .quo t (.float .f64 a) (.float .f64 (P2 (1023 + p)))).run P w = .ok (.float .f64 r) w' ∧ Bel w w' ∧ r < 2 * sgnW ∧ cn r = ov p (cn a) := by
 obtain ⟨r, w', h1, h2, h3, h4⟩ := run_fop (P := P) .quo (fun x y => (double.read x).quotient (double.fractionBits + 2) (double.read y)) (fun _ _ => rfl) (.inr (.inr (.inr rfl))) t a (P2 (1023 + p)) w
 refine ⟨r, w', h1, drew_bel w h2, h3, h4.trans ?_⟩
 unfold ov
 rw [fdiv_cn ha (by omega) (by omega)]; rfl
theorem fz_in {w : World} {b n c : Nat} {X : List Nat} (h : Fz w b X) (hn : X.length = n) (hl : n ≤ 100000) (h1 : n ≤ c) (h2 : c ≤ 9223372036854775807) : In w (.slice (some ⟨b, 0, none⟩) n c) X := by
 subst hn
 exact ⟨_, c, rfl, h1, h2, h.fr (by omega), fun e => by cases e⟩
end Lc
namespace Ld
open Ieee Go Go.RowKit Go.Proofs Go.Proofs.YtalbgklfhabnkaaGreatDoor Ow Dt Gp I0 U0 W0 S4 S6 P0 M0 M1 M2 M3 P4 P5 P6 P8 Pa Pb W4 W5 W1 W2 Pc Pe Pg Ph Pk Lv La Pn Po Pq Lc Yh
attribute [local go_sem ↓] Go.wp_at_zero Go.wp_at_succ
theorem rep_set (N a : Nat) : (List.replicate N 0).set 0 a = delta N a := by
 apply List.ext_getElem (by simp [delta])
 intro j h1 h2
 have : j < N := by simpa using h1
 simp [delta, List.getElem_set]
 split <;> split <;> first | rfl | omega
end Ld
namespace Z3
open Ieee Go Go.RowKit Go.Proofs Go.Proofs.YtalbgklfhabnkaaGreatDoor Ow Gp Gq Gr G1 G3 I0 W0 W1 W2 P0 Po Z1
open Go.Proofs.YtalbgklfhabnkaaGreatDoor.Pq (ord_c ge_c le_c)
attribute [local go_sem ↓] Go.wp_at_zero Go.wp_at_succ
def Md (x : Nat) : Prop := Nm x ∧ (x = 0 ∨ (P2 723 ≤ frung x ∧ frung x ≤ P2 1323))
theorem md_mid {r : Nat} (h : r < 2 * sgnW) (hf : frung r ≤ infR) (hm : V r = 0 ∨ (mag (P2 723) ≤ (V r).natAbs ∧ (V r).natAbs ≤ mag (P2 1323))) : Md (cn r) := by
 have hb : infR = 2047 * bn := by decide
 rcases hm with h0 | ⟨h1, h2⟩
 ·have e : frung r = 0 := by
   have := V_abs r
   rw [h0] at this
   exact mag_inj (by rw [← this, mag_zero]; rfl)
  have : cn r = 0 := by unfold cn; rw [if_neg (by omega), if_pos e]
  rw [this]
  exact ⟨nm_zero, .inl rfl⟩
 ·rw [V_abs, mag_le] at h1 h2
  have q1 := h1
  have q2 := h2
  unfold P2 at h1 h2
  have hpos : 0 < bn := by decide
  have hlt : frung r < infR := by omega
  have e : cn r = r := by unfold cn; rw [if_neg (by omega), if_neg (by omega)]
  rw [e]
  exact ⟨⟨h, hlt, e⟩, .inr ⟨q1, q2⟩⟩
theorem Md.up {x : Nat} (h : Md x) : Up x 7 := ⟨h.1, by
 rcases h.2 with rfl | ⟨a, b⟩
 ·exact .inl (by decide)
 ·have hb : infR = 2047 * bn := by decide
  have hpos : 0 < bn := by decide
  unfold P2 at a b
  exact .inr ⟨by omega, by omega⟩⟩
theorem Md.hd {x : Nat} (h : Md x) : Hd x := ⟨h.1, by
 rcases h.2 with rfl | ⟨a, b⟩
 ·exact .inl (by decide)
 ·unfold P2 at a
  exact .inr (by omega)⟩
theorem V_c1 : V 3256102530588868608 = (mag (P2 723) : Int) := by decide +kernel
theorem V_c2 : V 5958262307011166208 = (mag (P2 1323) : Int) := by decide +kernel
theorem V_c3 : V 12479474567443644416 = -(mag (P2 723) : Int) := by decide +kernel
theorem V_c4 : V 15181634343865942016 = -(mag (P2 1323) : Int) := by decide +kernel
theorem pass0 {r : Nat} (h : r < 2 * sgnW) (e : (FloatKind.f64.format.order r 0 == some .eq) = true) : Md (cn r) := by
 obtain ⟨a, b⟩ := ord_c (c := 0) (v := 0) h (by decide) (by decide) (by decide) (by cases q : FloatKind.f64.format.order r 0 <;> simp_all)
 refine md_mid h a (.inl ?_)
 rw [b, cmp_int] at e
 split at e
 ·simp at e
 ·split at e
  ·assumption
  ·simp at e
theorem pass1 {r : Nat} (h : r < 2 * sgnW) (e1 : (FloatKind.f64.format.order r 3256102530588868608 == some .gt || FloatKind.f64.format.order r 3256102530588868608 == some .eq) = true) (e2 : (FloatKind.f64.format.order r 5958262307011166208 == some .lt || FloatKind.f64.format.order r 5958262307011166208 == some .eq) = true) : Md (cn r) := by
 obtain ⟨a, b⟩ := ge_c h (by decide) (by decide) V_c1 e1
 obtain ⟨_, b2⟩ := le_c h (by decide) (by decide) V_c2 e2
 exact md_mid h a (.inr ⟨by omega, by omega⟩)
theorem pass2 {r : Nat} (h : r < 2 * sgnW) (e1 : (FloatKind.f64.format.order r 12479474567443644416 == some .lt || FloatKind.f64.format.order r 12479474567443644416 == some .eq) = true) (e2 : (FloatKind.f64.format.order r 15181634343865942016 == some .gt || FloatKind.f64.format.order r 15181634343865942016 == some .eq) = true) : Md (cn r) := by
 obtain ⟨a, b⟩ := le_c h (by decide) (by decide) V_c3 e1
 obtain ⟨_, b2⟩ := ge_c h (by decide) (by decide) V_c4 e2
 exact md_mid h a (.inr ⟨by omega, by omega⟩)
theorem dMid2 {A : Option Addr} {n c : Nat} {X : List Nat} (W0 : World) (hx : Fr W0 A X) (hn : X.length = n) (hl : n ≤ 100000) :
  Calls Tryz.prog 16 #[.slice A n c] W0 (fun e w' => ∃ z, e = .returned (.bool z) ∧ Bel W0 w' ∧ (z = true → ∀ i, i < n → Md (nthN X i))) := by
 have FX := Ho.mk hx
 have HN := Ho.mk hn
 clear hx hn
 go_enter Tryz.func16, Tryz.ntmps16
 go_wp2_with fail
 go_loopw [3] (fun v wr => ∃ (i : Nat), i ≤ n ∧ v = .int .i64 i ∧ Ho (∀ j, j < i → Md (nthN X j)) ∧ Ho (Bel W0 wr)) (fun v _ => n - (intOf v).toNat)
 case atStart => exact ⟨0, Nat.zero_le _, rfl, ⟨fun j hj => absurd hj (Nat.not_lt_zero _)⟩, ⟨Bel.refl _⟩⟩
 case round =>
  obtain ⟨i, hi, rfl, HT, HW⟩ := hrel
  rcases Nat.lt_or_ge i n with hlt | hge
  ·obtain ⟨a1, r, rfl, y1, l1, c1⟩ := FX.out.at_ (i := i) (by rw [HN.out]; exact hlt)
   have y1 := HW.out.cell y1
   have L1 := Ho.mk l1
   have C1 := Ho.mk c1
   clear l1 c1
   cases h0 : (FloatKind.f64.format.order r 0 == some .eq) with
   | true =>
    have UP := Ho.mk (pass0 L1.out h0)
    go_wp2
    go_roundw
    case rel => exact ⟨i + 1, by omega, by simp, ⟨fun j hj => by rcases Nat.lt_or_ge j i with l | l; exact HT.out j l; rw [show j = i by omega, ← C1.out]; exact UP.out⟩, HW⟩
    case measure => simp [intOf]; omega
   | false =>
    cases h1 : (FloatKind.f64.format.order r 3256102530588868608 == some .gt || FloatKind.f64.format.order r 3256102530588868608 == some .eq) with
    | true =>
     cases h2 : (FloatKind.f64.format.order r 5958262307011166208 == some .lt || FloatKind.f64.format.order r 5958262307011166208 == some .eq) with
     | true =>
      have UP := Ho.mk (pass1 L1.out h1 h2)
      go_wp2
      go_roundw
      case rel => exact ⟨i + 1, by omega, by simp, ⟨fun j hj => by rcases Nat.lt_or_ge j i with l | l; exact HT.out j l; rw [show j = i by omega, ← C1.out]; exact UP.out⟩, HW⟩
      case measure => simp [intOf]; omega
     | false =>
      cases h3 : (FloatKind.f64.format.order r 12479474567443644416 == some .lt || FloatKind.f64.format.order r 12479474567443644416 == some .eq) with
      | true =>
       cases h4 : (FloatKind.f64.format.order r 15181634343865942016 == some .gt || FloatKind.f64.format.order r 15181634343865942016 == some .eq) with
       | true =>
        have UP := Ho.mk (pass2 L1.out h3 h4)
        go_wp2
        go_roundw
        case rel => exact ⟨i + 1, by omega, by simp, ⟨fun j hj => by rcases Nat.lt_or_ge j i with l | l; exact HT.out j l; rw [show j = i by omega, ← C1.out]; exact UP.out⟩, HW⟩
        case measure => simp [intOf]; omega
       | false =>
        go_wp2
        go_ret
        exact ⟨false, rfl, HW.out, fun e => by cases e⟩
      | false =>
       go_wp2
       go_ret
       exact ⟨false, rfl, HW.out, fun e => by cases e⟩
    | false =>
     cases h3 : (FloatKind.f64.format.order r 12479474567443644416 == some .lt || FloatKind.f64.format.order r 12479474567443644416 == some .eq) with
     | true =>
      cases h4 : (FloatKind.f64.format.order r 15181634343865942016 == some .gt || FloatKind.f64.format.order r 15181634343865942016 == some .eq) with
      | true =>
       have UP := Ho.mk (pass2 L1.out h3 h4)
       go_wp2
       go_roundw
       case rel => exact ⟨i + 1, by omega, by simp, ⟨fun j hj => by rcases Nat.lt_or_ge j i with l | l; exact HT.out j l; rw [show j = i by omega, ← C1.out]; exact UP.out⟩, HW⟩
       case measure => simp [intOf]; omega
      | false =>
       go_wp2
       go_ret
       exact ⟨false, rfl, HW.out, fun e => by cases e⟩
     | false =>
      go_wp2
      go_ret
      exact ⟨false, rfl, HW.out, fun e => by cases e⟩
  ·obtain rfl : i = n := by omega
   go_wp2
   go_ret
   exact ⟨true, rfl, HW.out, fun _ => HT.out⟩
end Z3
namespace Lj
open Ieee Go Go.RowKit Go.Proofs Go.Proofs.YtalbgklfhabnkaaGreatDoor Ow Dt Gp I0 U0 W0 S4 S6 P0 M0 M1 M3 W4 W5 V2 P4 Y3 Yh Y1 P8 Pc Y6 Y8 Pk Lv Le Pq Pc
open Go.Proofs.YtalbgklfhabnkaaGreatDoor.Ld (fz_zero rep_set)
open Go.Proofs.YtalbgklfhabnkaaGreatDoor.Lc (fz_in)
open Go.Proofs.YtalbgklfhabnkaaGreatDoor.S4 (infoF)
open Go.Proofs.YtalbgklfhabnkaaGreatDoor.W1 (Nm)
open Go.Proofs.YtalbgklfhabnkaaGreatDoor.Pa (upMap upMap_len upMap_zero upMap_set)
open Go.Proofs.YtalbgklfhabnkaaGreatDoor.W2 (P2 Up pw pw_ok)
open Go.Proofs.YtalbgklfhabnkaaGreatDoor.V1 (NI St ni_same ni_loop St.refl St.of_bel blk_keep ni_blk put_st)
open Go.Proofs.YtalbgklfhabnkaaGreatDoor.C6 (leaveAny)
open Go.Proofs.YtalbgklfhabnkaaGreatDoor.Pg (In)
attribute [local go_sem ↓] Go.wp_at_zero Go.wp_at_succ
theorem nm_fin {a : Nat} (h : Nm (cn a)) : frung a ≤ infR := by
 rcases Nat.lt_or_ge infR (frung a) with q | q
 ·have := h.fin; rw [cn_nan q] at this; exact absurd this (by decide)
 ·exact q
theorem eqA {r a : Nat} (h : r < 2 * sgnW) (ha : a < 2 * sgnW) (hn : Nm (cn a)) (e : cn r = cn a) : (FloatKind.f64.format.order r a != some .eq) = false := by
 have h1 := alike_cn h ha
 rw [e, decide_eq_true rfl] at h1
 unfold G3.alike at h1
 have h2 : (FloatKind.f64.format.order a a != some .eq) = false := by
  rw [show FloatKind.f64.format.order a a = some (compare (V a) (V a)) from order_le ha ha (nm_fin hn) (nm_fin hn), cmp_int, if_neg (by omega), if_pos rfl]; rfl
 rw [h2, Bool.and_false, Bool.or_false] at h1
 simp only [bne, h1, Bool.not_true]
theorem is0 {r : Nat} (h : r < 2 * sgnW) (e : cn r = 0) : (FloatKind.f64.format.order r 0 != some .eq) = false := ne_no (by rw [eq0 h, e]; rfl)
theorem wrap_shl {q N : Nat} (h : N = 2 ^ (q % 6 + 1)) : wrap64 (2 * 2 ^ (q % 6)) = (N : Int) := by
 subst h
 have : q % 6 < 6 := Nat.mod_lt _ (by decide)
 generalize q % 6 = m at *
 have hc : m = 0 ∨ m = 1 ∨ m = 2 ∨ m = 3 ∨ m = 4 ∨ m = 5 := by omega
 rcases hc with rfl | rfl | rfl | rfl | rfl | rfl <;> decide +kernel
theorem okR_fin : ∀ p : Fin 7, 1 ≤ p.val → okR (2 ^ p.val) = true := by decide +kernel
theorem one_fr {w : World} {b r : Nat} (K : Blk w b 22 [.float .f64 r]) (hr : r < 2 * sgnW) : Fr w (some ⟨b, 0, none⟩) [cn r] :=
 Fz.fr ⟨_, K, fun j hj => by
  obtain rfl : j = 0 := by simp at hj; omega
  exact ⟨_, rfl, r, rfl, hr, rfl⟩⟩ (by simp)
end Lj
namespace Z5
open Ieee Go Gp Gq Gr G9 U0 W0 W1 W2 W3 M0 M1 M2 M3 M4 Pc Pn Po Y1 Y2 Z1 Z2
def Md7 (a : Nat) : Prop := Nm a ∧ (a = 0 ∨ 8 * bn ≤ frung a)
theorem Md7.hd {a : Nat} (h : Md7 a) : Hd a := ⟨h.1, by
 rcases h.2 with rfl | q
 ·exact .inl (by decide)
 ·exact .inr (by omega)⟩
theorem ov_exact {p a : Nat} (hp : p ≤ 7) (h : Md7 a) : Nm (ov p a) ∧ V (ov p a) * 2 ^ p = V a := by
 have e : ov p a = R (V a) p := by
  unfold ov
  rw [fdiv_P2 h.1.lt h.1.cl (by omega)]; exact fmul_down h.1 (by omega)
 rw [e]
 rcases h.2 with rfl | h1
 ·rw [show V 0 = 0 from by decide, R_zero]; exact ⟨nm_zero, by rw [show V 0 = 0 from by decide]; simp⟩
 ·have m := mag_up (r := frung a - p * bn) p (by have := Nat.mul_le_mul_right bn hp; omega)
  rw [Nat.sub_add_cancel (by have := Nat.mul_le_mul_right bn hp; omega)] at m
  exact R_exact (r := frung a - p * bn) (by rw [V_abs, m]) (by have := h.1.fin; omega)
end Z5
namespace Lm
open Ieee Go Go.RowKit Go.Proofs Go.Proofs.YtalbgklfhabnkaaGreatDoor Ow Dt Gp I0 U0 W0 S4 S6 P0 M0 M1 M3 W4 W5 V2 P4 Y3 Yh Y1 P8 Pc Y6 Y8 Pk Lv Le Li Y2 Y9 Z1 Z2 Z3 K4 Lk Lj Pq Pc Pn Po Z5
open Go.Proofs.YtalbgklfhabnkaaGreatDoor.Lc (run_ov)
open Go.Proofs.YtalbgklfhabnkaaGreatDoor.Ld (fz_zero rep_set)
open Go.Proofs.YtalbgklfhabnkaaGreatDoor.Lc (fz_in)
open Go.Proofs.YtalbgklfhabnkaaGreatDoor.S4 (infoF)
open Go.Proofs.YtalbgklfhabnkaaGreatDoor.W1 (Nm)
open Go.Proofs.YtalbgklfhabnkaaGreatDoor.Pa (upMap upMap_len upMap_zero upMap_set)
open Go.Proofs.YtalbgklfhabnkaaGreatDoor.W2 (P2 Up pw pw_ok)
open Go.Proofs.YtalbgklfhabnkaaGreatDoor.V1 (NI St ni_same ni_loop St.refl St.of_bel blk_keep ni_blk put_st)
open Go.Proofs.YtalbgklfhabnkaaGreatDoor.C6 (leaveAny)
open Go.Proofs.YtalbgklfhabnkaaGreatDoor.Pg (In)
attribute [local go_sem ↓] Go.wp_at_zero Go.wp_at_succ
theorem md_seven {a : Nat} (h : Md a) : Md7 a := ⟨h.1, by
 rcases h.2 with q | ⟨q, _⟩
 ·exact .inl q
 ·unfold P2 at q
  exact .inr (by omega)⟩
theorem nth_rep0 (n k : Nat) : nthN (List.replicate n 0) k = 0 := by
 by_cases h : k < n <;> simp [nthN, List.getElem?_replicate, h]
theorem one15 {r q : Nat} (w : World) (T : Tab w) (hr : r < 2 * sgnW) (hq : q < 256) :
  Calls Tryz.prog 3 #[.float .f64 r, .int .u8 (q : Int)] w (fun e w' => e = .returned (.bool true) ∧ Bel w w') := by
 have TT := Ho.mk T
 have HR := Ho.mk hr
 clear T hr
 go_enter Tryz.func3, Tryz.ntmps3
 go_wp2_with fail
 have C1 := Ho.mk (head15 w TT.out)
 (with_reducible refine C1.out.mono ?_); rintro e v2 ⟨rfl, b3⟩
 have b3H := Ho.mk b3
 clear C1 b3
 go_wp2_with fail
 have BM := Ho.mk (Blk.new v2 [.float .f64 r] 22)
 have g4 := Ho.mk ((Bel.refl v2).alloc (.cells #[.float .f64 r] 22))
 generalize v2.alloc (.cells #[.float .f64 r] 22) = v5 at *
 have C6 := Ho.mk (dMid2 (X := [cn r]) (n := 1) (c := 1) v5 (one_fr BM.out HR.out) rfl (by omega))
 (with_reducible refine C6.out.mono ?_); rintro e v7 ⟨z, rfl, b8, hz⟩
 have b8H := Ho.mk b8
 clear C6 b8
 cases z with
 | false =>
  clear hz
  go_wp2
  go_ret
  exact ⟨rfl, ((b3H.out.trans g4.out).trans b8H.out)⟩
 | true =>
  have M1 := Ho.mk (show Md (cn r) from hz rfl 0 (by omega))
  clear hz
  have U1 := Ho.mk M1.out.up
  obtain ⟨p, hp⟩ : ∃ p, p = q % 6 + 1 := ⟨_, rfl⟩
  have hp6 : p ≤ 6 := by omega
  have hp1 : 1 ≤ p := by omega
  obtain ⟨N, hN⟩ : ∃ N, N = 2 ^ p := ⟨_, rfl⟩
  have hNp : N = 2 * 2 ^ (p - 1) := by rw [hN, two_half hp1]
  have hN1 : 2 ≤ N := by have := Nat.two_pow_pos (p - 1); omega
  have hN2 : N ≤ 64 := by rw [hN]; exact Nat.pow_le_pow_right (by decide) hp6
  have hNe : N % 2 = 0 := by omega
  have HN := Ho.mk (And.intro (show N = 2 ^ (q % 6 + 1) by rw [hN, hp]) (And.intro hN (And.intro hp6 hp1)))
  clear hp hN hp6 hp1 hNp
  go_upto_region 4 with fail
  go_cut [6] from 21 to 24 (fun s6 wy => s6 = .int .i64 (N : Int) ∧ Ho (Bel v7 wy))
  case first =>
   go_wp2_with fail
   go_meet
   exact ⟨congrArg (Value.int .i64) (wrap_shl HN.out.1), ⟨Bel.refl _⟩⟩
  case rest =>
   obtain ⟨rfl, HB⟩ := hcut
   obtain ⟨wy, rfl⟩ : ∃ wy : World, wy = wc := ⟨_, rfl⟩
   have HW := Ho.mk (((b3H.out.trans g4.out).trans b8H.out).trans HB.out)
   go_upto_region 6 with (at_make; refine wpList_mk _ rfl _ _ 25 rfl 22 (.float .f64 0) 8 Tryz.underlying25 infoF rfl N rfl rfl (by omega) (by omega) ?_; intro w1 hk hb hs)
   have H := Ho.mk ((Hp.nil (Bel.refl wy)).new (e := .row wy.heap.size (List.replicate N 0)) hb (fz_zero hk) (Nat.le_refl _))
   clear hk hb hs
   generalize wy.heap.size = b1 at *
   go_upto_region 7 with (at_make; refine wpList_mk _ rfl _ _ 25 rfl 22 (.float .f64 0) 8 Tryz.underlying25 infoF rfl N rfl rfl (by omega) (by omega) ?_; intro w2 hk hb hs)
   replace H := Ho.mk (H.out.new (e := .row w1.heap.size (List.replicate N 0)) hb (fz_zero hk) (Nat.le_refl _))
   clear hk hb hs
   generalize w1.heap.size = b2 at *
   obtain ⟨_, y0, _, _⟩ := (H.out.row 1 rfl).at_ (i := 0) (by rw [List.length_replicate]; omega)
   have x0 := (H.out.row 1 rfl).free 0
   go_upto_region 8 with fail
   clear y0 x0
   replace H := Ho.mk (H.out.setF 1 rfl (0) HR.out rfl)
   simp only [List.set_cons_zero, List.set_cons_succ] at H
   generalize World.setCell w2 ⟨b1, 0, none⟩ (.float .f64 r) = w3 at *
   have eD : (List.replicate N 0).set 0 (cn r) = delta N (cn r) := rep_set N (cn r)
   rw [eD] at H
   clear eD
   obtain ⟨_, y0, _, _⟩ := (H.out.row 0 rfl).at_ (i := 0) (by rw [List.length_replicate]; omega)
   have x0 := (H.out.row 0 rfl).free 0
   go_upto_region 9 with fail
   clear y0 x0
   replace H := Ho.mk (H.out.setF 0 rfl (0) HR.out rfl)
   simp only [List.set_cons_zero, List.set_cons_succ] at H
   generalize World.setCell w3 ⟨b2, 0, none⟩ (.float .f64 r) = w4 at *
   obtain ⟨_, y0, _, _⟩ := (H.out.row 0 rfl).at_ (i := 1) (by rw [List.length_set, List.length_replicate]; omega)
   have x0 := (H.out.row 0 rfl).free 1
   go_upto_region 10 with fail
   clear y0 x0
   replace H := Ho.mk (H.out.setF 0 rfl (1) HR.out rfl)
   simp only [List.set_cons_zero, List.set_cons_succ] at H
   generalize World.setCell w4 ⟨b2, 1, none⟩ (.float .f64 r) = w5 at *
   obtain ⟨Z, hZ⟩ : ∃ Z, Z = (((List.replicate N 0).set 0 (cn r)).set 1 (cn r)) := ⟨_, rfl⟩
   rw [← hZ] at H
   have LZ := Ho.mk (show Z.length = N by rw [hZ, List.length_set, List.length_set, List.length_replicate])
   have VZ := Ho.mk (show ∀ k, k < N → nthN Z k = if k ≤ 1 ∨ (k % 2 = 0 ∧ k < 2) then cn r else 0 by
    intro k hk; rw [hZ, nthN_set, nthN_set, nth_rep0, List.length_set, List.length_replicate]
    by_cases h0 : k = 0
    ·subst h0; rw [if_neg (by omega), if_pos (by omega), if_pos (by omega)]
    by_cases h1 : k = 1
    ·subst h1; rw [if_pos (by omega), if_pos (by omega)]
    ·rw [if_neg (by omega), if_neg (by omega), if_neg (by omega)])
   clear hZ
   go_wp2_with fail
   go_loopw [9] (fun v wr => ∃ (i : Nat) (Z : List Nat), 2 ≤ i ∧ i % 2 = 0 ∧ i ≤ N ∧ v = .int .i64 i ∧ Ho (Z.length = N) ∧ Ho (∀ k, k < N → nthN Z k = if k ≤ 1 ∨ (k % 2 = 0 ∧ k < i) then cn r else 0) ∧ Ho (Hp wy wr [.row b2 Z, .row b1 (delta N (cn r))])) (fun v _ => N - (intOf v).toNat)
   case atStart => exact ⟨2, Z, Nat.le_refl _, rfl, by omega, rfl, LZ, VZ, H⟩
   case round =>
    clear H LZ VZ
    obtain ⟨i, Y, hi2, hie, hi, rfl, LZ, VZ, H⟩ := hrel
    rcases Nat.lt_or_ge i N with hlt | hge
    ·have hlt2 := hlt
     obtain ⟨_, y0, _, _⟩ := (H.out.row 0 rfl).at_ (i := i) (by rw [LZ.out]; exact hlt)
     have x0 := (H.out.row 0 rfl).free i
     go_wp2_with fail
     clear y0 x0
     replace H := Ho.mk (H.out.setF 0 rfl (i) HR.out rfl)
     simp only [List.set_cons_zero, List.set_cons_succ] at H
     generalize World.setCell wr ⟨b2, i, none⟩ (.float .f64 r) = w6 at *
     go_roundw
     case rel => exact ⟨i + 2, _, by omega, by omega, by omega, by simp, ⟨by rw [List.length_set]; exact LZ.out⟩, ⟨by
      intro k hk
      rw [nthN_set, VZ.out k hk, LZ.out]
      by_cases h0 : i = k
      ·subst h0; rw [if_pos ⟨rfl, hlt⟩, if_pos (by omega)]
      ·rw [if_neg (by omega)]
       by_cases h1 : k ≤ 1 ∨ (k % 2 = 0 ∧ k < i)
       ·rw [if_pos h1, if_pos (by omega)]
       ·rw [if_neg h1, if_neg (by omega)]⟩, H⟩
     case measure => simp [intOf]; omega
    ·obtain rfl : i = N := by omega
     have okN : okR i = true := by have := okR_fin ⟨p, by have := HN.out.2.2.1; omega⟩ HN.out.2.2.2; rw [HN.out.2.1]; exact this
     have hp2 : Nat.log2 i = p := by rw [HN.out.2.1]; exact Nat.log2_two_pow
     obtain ⟨X0, hX⟩ : ∃ X0, X0 = irR (delta i (cn r)) := ⟨_, rfl⟩
     obtain ⟨Y0, hY⟩ : ∃ Y0, Y0 = irR Y := ⟨_, rfl⟩
     have EX := Ho.mk (show X0 = irR (delta i (cn r)) ∧ 0 = errF (delta i (cn r)) from ⟨hX, by unfold errF; rw [delta_len, okN]; rfl⟩)
     have EY := Ho.mk (show Y0 = irR Y ∧ 0 = errF Y from ⟨hY, by unfold errF; rw [LZ.out, okN]; rfl⟩)
     have p7 : p ≤ 7 := by have := HN.out.2.2.1; omega
     have VX := Ho.mk (show X0.length = i ∧ ∀ k, k < i → nthN X0 k = ov p (cn r) by
      have e : X0 = irfftN p (delta (2 ^ p) (cn r)) := by rw [hX]; unfold irR; rw [delta_len, okN, hp2]; rw [← HN.out.2.1]; rfl
      refine ⟨by rw [e, irfftN_len, ← HN.out.2.1], fun k hk => ?_⟩
      rw [e]; exact irfft_one HN.out.2.2.2 p7 M1.out.hd (fun k hk => nth_delta hk) (by rw [← HN.out.2.1]; exact hk))
     have VY := Ho.mk (show Y0.length = i ∧ ∀ k, k < i → nthN Y0 k = if k = 0 then cn r else 0 by
      have e : Y0 = irfftN p Y := by rw [hY]; unfold irR; rw [LZ.out, okN, hp2]; rfl
      refine ⟨by rw [e, irfftN_len, ← HN.out.2.1], fun k hk => ?_⟩
      rw [e]; refine irfft_alike HN.out.2.2.2 p7 (U1.out.mono p7) (fun k hk => ?_) (by rw [← HN.out.2.1]; exact hk)
      rw [← HN.out.2.1] at hk; rw [VZ.out k hk]
      by_cases h1 : k ≤ 1 ∨ k % 2 = 0
      ·rw [if_pos h1, if_pos (by omega)]
      ·rw [if_neg h1, if_neg (by omega)])
     clear okN hp2 hX hY VZ
     go_wp2_with fail
     have C5 := Ho.mk (pIrfft (TT.out.bel (HW.out.trans H.out.bel)) (fz_in (n := i) (c := i) (H.out.row 1 rfl) (delta_len _ _) (by omega) (Nat.le_refl _) (by omega)) (by rw [(delta_len _ _)]; omega) EX.out.1 EX.out.2)
     (with_reducible refine C5.out.mono ?_); rintro e w8 ⟨A5, c5, rfl, r5, b5⟩
     obtain ⟨bx, cx, e, _, _, H⟩ := H.out.rowF b5 r5 (by rw [VX.out.1]; omega)
     rw [VX.out.1] at e ⊢
     cases e
     replace H := Ho.mk H
     clear C5 r5 b5
     go_wp2_with fail
     have C5 := Ho.mk (pIrfft (TT.out.bel (HW.out.trans H.out.bel)) (fz_in (n := i) (c := i) (H.out.row 1 rfl) LZ.out (by omega) (Nat.le_refl _) (by omega)) (by rw [LZ.out]; omega) EY.out.1 EY.out.2)
     (with_reducible refine C5.out.mono ?_); rintro e w9 ⟨A5, c5, rfl, r5, b5⟩
     obtain ⟨by0, cy, e, _, _, H⟩ := H.out.rowF b5 r5 (by rw [VY.out.1]; omega)
     rw [VY.out.1] at e ⊢
     cases e
     replace H := Ho.mk H
     clear C5 r5 b5
     obtain ⟨rc, yc, lc, cc⟩ := (H.out.row 0 rfl).at_ (i := 0) (by rw [VY.out.1]; omega)
     rw [VY.out.2 0 (by omega), if_pos rfl] at cc
     have nc := eqA lc HR.out U1.out.nm cc
     have hi2 : (0 : Int) < (i : Int) ∧ (1 : Int) < (i : Int) := by omega
     obtain ⟨hi3, hi4⟩ := hi2
     clear lc cc
     go_upto_region 18 with fail
     clear yc nc
     go_wp2_with fail
     obtain ⟨wx, rfl⟩ : ∃ wx : World, wx = w9 := ⟨_, rfl⟩
     have cv := (conv_ok ⟨p, by have := HN.out.2.2.1; omega⟩).1
     dsimp only at cv
     rw [← HN.out.2.1] at cv
     have NO := Ho.mk (ov_exact (show p ≤ 7 by have := HN.out.2.2.1; omega) (md_seven M1.out)).1
     go_loopw [14] (fun v wr => ∃ (j : Nat), j ≤ i ∧ v = .int .i64 j ∧ Ho (Hp wy wr [.row by0 Y0, .row bx X0, .row b2 Y, .row b1 (delta i (cn r))])) (fun v _ => i - (intOf v).toNat)
     case atStart => exact ⟨0, Nat.zero_le _, rfl, H⟩
     case round =>
      clear H
      obtain ⟨j, hj, rfl, H⟩ := hrel
      rcases Nat.lt_or_ge j i with hlt | hge
      ·obtain ⟨rx, y1, l1, c1⟩ := (H.out.row 1 rfl).at_ (i := j) (by rw [VX.out.1]; exact hlt)
       rw [VX.out.2 j hlt] at c1
       obtain ⟨rz, wz, hm, bz, lz, cz⟩ := run_ov (P := Tryz.prog) (show p ≤ 7 by have := HN.out.2.2.1; omega) 22 HR.out wr
       have n1 := eqA l1 lz (by rw [cz]; exact NO.out) (by rw [c1, cz])
       have BZ := Ho.mk bz
       clear l1 c1 lz cz bz
       by_cases h0 : j = 0
       ·subst h0
        go_wp2_with fail
        replace H := Ho.mk (H.out.grow BZ.out)
        go_roundw
        case rel => exact ⟨0 + 1, by omega, by simp, H⟩
        case measure => simp [intOf]; omega
       ·have hj3 : (0 : Int) < (j : Int) := by omega
        obtain ⟨ry, y0, l0, c0⟩ := ((H.out.grow BZ.out).row 0 rfl).at_ (i := j) (by rw [VY.out.1]; exact hlt)
        rw [VY.out.2 j hlt, if_neg h0] at c0
        have n0 := is0 l0 c0
        clear l0 c0
        go_wp2_with fail
        replace H := Ho.mk (H.out.grow BZ.out)
        go_roundw
        case rel => exact ⟨j + 1, by omega, by simp, H⟩
        case measure => simp [intOf]; omega
      ·obtain rfl : j = i := by omega
       go_wp2
       go_ret
       exact ⟨rfl, HW.out.trans H.out.bel⟩
theorem one15_door (a : Nat) (q : Int) (w : World) (T : Tab w) (ha : (Lit.float .f64 a).wf = true) (hq : 0 ≤ q ∧ q ≤ 255) :
  Calls Tryz.prog 3 #[.float .f64 a, .int .u8 q] w (fun e w' => e = .returned (.bool true) ∧ Bel w w') := by
 obtain ⟨n, rfl⟩ : ∃ n : Nat, q = (n : Int) := ⟨q.toNat, by omega⟩
 exact one15 w T (Pf.wf_lt ha) (by omega)
end Lm
end Go.Proofs.YtalbgklfhabnkaaGreatDoor
