/-
  Joined, of what this claim leans on: Ow, Pl, R1, R2, R3, R4, R5, Ox, R7, D2, D5, D6, D7, F1, GA, I1, GB, W0, W1, W2, W4, W5, Yh, Yi, P8, Pc, Pe, Pg, Y3, Y4, Pn, Y1, Y5, Y6.
-/
import Derived.Below
import Derived.WalkKit
import Derived.KernelRfl
import Derived.WalkLawsBesides
import Derived.Laws.EntriesVeiled
import Derived.RowKit3
import Derived.Deep.Draws
import Derived.Deep.OwnRows
import Derived.Laws.CopyOwn
import Derived.Laws.OwnMore
import Derived.Laws.MakeOwn
import Derived.Deep.QuietTactic
import Derived.BigQuiet
import Derived.IntWalk
import Derived.Deep.RegionLaw
import Derived.StillTailTactics
import Derived.Deep.RegionHeld3
import Ieee.Arith
import Derived.Laws.Externs
import Derived.Laws.FloatArith
import Derived.Laws.BitsAllLaws
import Derived.ChangeKeysEq
import Derived.Deep.DrawnRows
import Derived.OrdersIn
import Derived.OwnWalkIn
import Derived.RangeFuncCalls
import Derived.OrdersHeld
import Derived.Laws.Cover2
import Derived.RegionIn
import Derived.Test.YtalbgklfhabnkaaGreatDoorJIrfftScale5
set_option linter.unusedVariables false
set_option linter.unusedSimpArgs false
set_option maxRecDepth 100000
set_option maxHeartbeats 16000000
namespace Go.Proofs.YtalbgklfhabnkaaGreatDoor
namespace Ow
open Go.RowKit
theorem wpList_app0 {P : Program} (w : World) {ops : Array Oper} {rest : List Oper} {o : Oper} {a : Act} {Q : Exit → Act → World → Prop} (hgd : o.guard = none) (s x : Operand) (t : TypeId)
  (ho : o.op = .call { callee := .builtin .append, args := #[s, x], argTypes := #[t, t] })
  (e : Nat) (z : Value) (sz bytes : Nat) (ht : P.underlying t = some (.slice e)) (hinfo : (P.info? e).map (fun i => (i.zero, i.size, i.bytes)) = some (some z, sz, bytes))
  (A : Option Addr) (n c cx : Nat) (hs : a.eval s = .slice A n c) (hx : a.eval x = .slice none 0 cx) (hle : n ≤ c)
  (hK : wpList P ops Q rest (a.put o.dst (.slice A n c)) w) : wpList P ops Q (o :: rest) a w := by
 obtain ⟨i, hi, hzz⟩ := Option.map_eq_some_iff.1 hinfo
 refine wpList_plain hgd fun K hK' => ?_
 have hrun : (Builtin.append_ #[t, t] o.type #[.slice A n c, .slice none 0 cx]).run P w = .ok (.slice A n c) w := by
  cases A <;> simp [Builtin.append_, run_underlying ht, sizeOf, typeInfo, hi, hle, storeCells, Builtin.lenOf, Builtin.firstCells]
 unfold Oper.wp
 simp [execOp, ho, resolve, invoke, builtin, hs, hx, hrun, Result.andThen]
 exact hK' _ _ hK
end Ow
namespace Pl
open Go Go.RowKit Ow
theorem pow_le_nat {a b : Nat} (h : a ≤ b) : (16777216 : Nat) ^ a ≤ 16777216 ^ b := Nat.pow_le_pow_right (by decide) h
theorem drop_nil_val {l : List Int} {i : Nat} (h : l.length ≤ i) : val (l.drop i) = 0 := by rw [List.drop_eq_nil_of_le h]; rfl
theorem val_snoc (d : List Int) (v : Int) : val (d ++ [v]) = val d + 16777216 ^ d.length * v := by rw [val_append]; simp [val]
theorem ahead_step {V p f c r T : Int} (h : V + p * (c + (f + 16777216 * r)) = T) : V + p * ((f + c) % 16777216) + p * 16777216 * ((f + c) / 16777216 + r) = T := by
 have e : 16777216 * ((f + c) / 16777216) + (f + c) % 16777216 = f + c := Int.mul_ediv_add_emod _ _
 generalize (f + c) / 16777216 = d at e ⊢
 generalize (f + c) % 16777216 = m at e ⊢
 rw [← h]
 have : m = f + c - 16777216 * d := by omega
 subst this
 rw [Int.mul_sub, Int.mul_add, Int.mul_add, Int.mul_add, Int.mul_add, Int.mul_assoc p 16777216 d, Int.mul_assoc p 16777216 r]; omega
theorem trim_self (x : Nat) : trimL (digs x) = digs x := trim_digs (digs_can x).1 (digs_val x)
theorem shr_limb {x y p q : Int} (hp : 0 < p) (hpq : p * q = 16777216) : x / p + y % p * (16777216 / p) = x / p + y * q % 16777216 := by
 have hq : 16777216 / p = q := by rw [← hpq]; exact Int.mul_ediv_cancel_left _ (by omega)
 have hq0 : 0 < q := by
  rcases Int.lt_trichotomy q 0 with h | h | h
  ·have : p * q < 0 := Int.mul_neg_of_pos_of_neg hp h
   omega
  ·subst h; simp at hpq
  ·exact h
 have c : y * q % 16777216 = q * (y % p) := by rw [← hpq, Int.mul_comm p q, Int.mul_comm y q, Int.mul_emod_mul_of_pos _ _ hq0]
 rw [c, hq, Int.mul_comm q]
end Pl
namespace R1
open Go.RowKit Go.Proofs.YtalbgklfhabnkaaGreatDoor Ow Pl N2
theorem at_calls (A : Option Addr) (c : Nat) (l : List Int) (i : Nat) (w : World) (h : Rd w A l) :
  Calls Tryz.prog 88 #[.slice A l.length c, .int .i64 (i : Int)] w fun e w' => e = .returned (.int .i64 (nth l i)) ∧ w = w' := by
 have hm := h.max
 by_cases hl : i < l.length
 ·obtain ⟨ad, rfl, x⟩ := h.cell i hl
  clear h
  go_enter Tryz.func88, Tryz.ntmps88
  go_wp2
  go_ret
  exact ⟨rfl, rfl⟩
 ·have e : Ho (nth l i = 0) := ⟨nth_ge (by omega)⟩
  clear h
  go_enter Tryz.func88, Tryz.ntmps88
  go_wp2
  go_ret
  exact ⟨by rw [e.out]; rfl, rfl⟩
theorem trim_calls (A : Option Addr) (c : Nat) (l : List Int) (w : World) (h : Rd w A l) (hc : l.length ≤ c) (hl : l.length ≤ 200000) :
  Calls Tryz.prog 86 #[.slice A l.length c] w fun e w' => ∃ A c, e = .returned (.slice A (trimL l).length c) ∧ (trimL l).length ≤ c ∧ Rd w' A (trimL l) ∧ Bel w w' := by
 have hm := h.max
 have H := Ho.mk h
 have HL : Hid (trimN l l.length ≤ l.length) := trimN_le l _
 clear h
 go_enter Tryz.func86, Tryz.ntmps86
 go_wp2
 go_loop [3] (fun v => ∃ n : Nat, n ≤ l.length ∧ v = .int .i64 n ∧ Ho (trimN l n = trimN l l.length)) (fun v => (intOf v).toNat)
 case atStart => exact ⟨l.length, Nat.le_refl _, rfl, ⟨rfl⟩⟩
 case round =>
  obtain ⟨n, hn, rfl, ht⟩ := hrel
  rcases Nat.eq_zero_or_pos n with h0 | h0
  ·subst h0
   have e : Ho (trimL l = []) := ⟨by have := ht.out; simp only [trimN] at this; simp [trimL, ← this]⟩
   cases A with
   | none =>
    go_wp2_with (at_builtin; (with_reducible refine wpList_app0 _ rfl (.tmp 18) (.tmp 21) 35 rfl 3 (.int .i64 0) 1 8 Tryz.underlying35 info3 (some ⟨w.heap.size, 0, none⟩) 0 0 c rfl rfl (Nat.le_refl _) ?_))
    go_ret
    rw [e.out]
    exact ⟨_, _, rfl, Nat.zero_le _, Rd.nil _ _, (Bel.refl w).alloc _⟩
   | some ad =>
    go_wp2_with (at_builtin; (with_reducible refine wpList_apps _ rfl (.tmp 18) (.tmp 21) 35 rfl w.heap.size 3 (.int .i64 0) 8 Tryz.underlying35 info3 rfl _ 0 [] rfl (OwnI.lit _ _ (Nat.le_refl _)) ad 0 c [] rfl rfl (by intro j u hu; simp at hu) (by simp) (by omega) (by omega) (by simp) ?_); intro v w1 hv hb)
    obtain ⟨A2, c2, rfl, hc2⟩ := hv.slice
    go_ret
    rw [e.out]
    exact ⟨_, _, rfl, Nat.zero_le _, Rd.nil _ _, ⟨((Below.refl _ w).alloc (Nat.le_refl _) _).trans hb⟩⟩
  ·obtain ⟨m, rfl⟩ : ∃ m, n = m + 1 := ⟨n - 1, by omega⟩
   obtain ⟨ad, rfl, hcell⟩ := H.out.cell m (by omega)
   by_cases hz : nth l m = 0
   ·rw [hz] at hcell
    have ht' : Ho (trimN l m = trimN l l.length) := ⟨by rw [← ht.out]; simp only [trimN]; rw [if_pos hz]⟩
    clear hz ht
    go_wp2
    go_round
    case rel => exact ⟨m, by omega, by simp, ht'⟩
    case measure => simp [intOf]
   ·have ht' : Ho (trimN l l.length = m + 1) := ⟨by rw [← ht.out]; simp only [trimN]; rw [if_neg hz]⟩
    have e : Ho (trimL l = l.take (m + 1)) := ⟨by simp [trimL, ht'.out]⟩
    have hb : (nth l m == 0) = false := beq_eq_false_iff_ne.mpr hz
    have R := H.out.take (m + 1)
    have hlen : Ho ((l.take (m + 1)).length = m + 1) := ⟨by simp; omega⟩
    clear ht hz
    go_wp2_with (at_builtin; (with_reducible refine wpList_apps _ rfl (.tmp 18) (.tmp 21) 35 rfl w.heap.size 3 (.int .i64 0) 8 Tryz.underlying35 info3 rfl _ 0 [] rfl (OwnI.lit _ _ (Nat.le_refl _)) ad (m + 1) c (ints (l.take (m + 1))) rfl (by rw [ints_len]; exact hlen.out) ((R.bel ((Bel.refl w).alloc _)).news) (ints_one _) (by omega) (by omega) (by simp) ?_); intro v w1 hv hb)
    have hv' : OwnI w1 w.heap.size 3 1 v (l.take (m + 1)).length (ints (l.take (m + 1))) := ⟨by rw [hlen.out]; have := hv.out; rwa [Nat.zero_add] at this⟩
    obtain ⟨A2, c2, rfl, hc2, hr2⟩ := hv'.rd (by rw [hlen.out]; omega)
    have H2 := Ho.mk hr2
    clear hv hv' hr2
    go_ret
    rw [e.out]
    exact ⟨_, _, rfl, hc2, H2.out, ⟨((Below.refl _ w).alloc (Nat.le_refl _) _).trans hb⟩⟩
end R1
namespace R2
open Go.RowKit Go.Proofs.YtalbgklfhabnkaaGreatDoor Ow Pl N2
theorem refOf_calls (n : Int) (N : Nat) (w : World) (hN : N = n.toNat) (h1 : n ≤ 9223372036854775807) :
  Calls Tryz.prog 55 #[.int .i64 n] w fun e w' => ∃ A c, e = .returned (.slice A (digs N).length c) ∧ (digs N).length ≤ c ∧ Rd w' A (digs N) ∧ Bel w w' := by
 have HN := Ho.mk hN
 clear hN
 go_enter Tryz.func55, Tryz.ntmps55
 go_wp2
 go_loopw [0, 3] (fun v0 v3 wr => ∃ (x : Int) (d : List Int), x ≤ 9223372036854775807 ∧ v0 = .int .i64 x ∧ Ho (d ++ digs x.toNat = digs N) ∧ Ho (OwnI wr w.heap.size 3 1 v3 d.length (ints d)) ∧ Ho (Bel w wr)) (fun v0 _ _ => (intOf v0).toNat)
 case atStart => exact ⟨n, [], h1, rfl, ⟨by rw [HN.out]; rfl⟩, ⟨OwnI.nil _ _ _ _⟩, ⟨Bel.refl _⟩⟩
 case round =>
  obtain ⟨x, d, hx, rfl, he, ho, hb⟩ := hrel
  rcases Int.lt_or_le 0 x with h0 | h0
  ·obtain ⟨m, rfl⟩ := Int.eq_ofNat_of_zero_le (Int.le_of_lt h0)
   have hlen := ofLoop he.out (by have := HN.out; omega)
   have hd3 := hlen.1
   rw [Int.toNat_natCast] at he
   clear hlen
   go_wp2_with (at_builtin; (refine wpList_app _ rfl (.tmp 6) (.tmp 9) 35 rfl w.heap.size 3 (.int .i64 0) 8 Tryz.underlying35 info3 rfl _ d.length (ints d) _ rfl ho.out rfl rfl (by omega) (by omega) hb.out.size ?_); intro v w1 hv hb1)
   go_roundw
   case rel =>
    refine ⟨(m : Int) / 16777216, d ++ [(m : Int) % 16777216], by omega, rfl, ⟨?_⟩, ⟨?_⟩, ⟨⟨hb.out.out.trans hb1⟩⟩⟩
    ·rw [show ((m : Int) / 16777216).toNat = m / 16777216 from by omega]
     exact digs_step (by omega) d N he.out
    ·rw [List.length_append, List.length_singleton]
     have e : ints (d ++ [(m : Int) % 16777216]) = ints d ++ [.int .i64 ((m : Int) % 16777216)] := by simp [ints]
     rw [e]; exact hv
   case measure => simp [intOf]; omega
  ·have e : Ho (d = digs N) := ⟨by have := he.out; rwa [show x.toNat = 0 from by omega, digs_zero, List.append_nil] at this⟩
   obtain ⟨A, c, rfl, hc, hr⟩ := ho.out.rd (by have := (ofLoop he.out (by have := HN.out; omega)).1; omega)
   have HR := Ho.mk hr
   clear hr he
   go_wp2
   go_ret
   rw [← e.out]
   exact ⟨A, c, rfl, hc, HR.out, hb.out⟩
end R2
namespace R3
open Go.RowKit Go.Proofs.YtalbgklfhabnkaaGreatDoor Ow Pl N2 R1 R2
open Go.Proofs.YtalbgklfhabnkaaGreatDoor.N6 (ret_int)
theorem cmp_calls (A0 A1 : Option Addr) (c0 c1 x y : Nat) (w : World) (h0 : Rd w A0 (digs x)) (h1 : Rd w A1 (digs y)) :
  Calls Tryz.prog 53 #[.slice A0 (digs x).length c0, .slice A1 (digs y).length c1] w
   fun e w' => e = .returned (.int .i64 (cmpI x y)) ∧ ∃ n, w' = w.drewN n := by
 have m0 := h0.max
 have m1 := h1.max
 by_cases hne : (digs x).length = (digs y).length
 ·have e := Ho.mk (cmp_digs x y hne)
  generalize digs x = l0 at *
  generalize digs y = l1 at *
  have hb : ((l0.length : Int) != (l1.length : Int)) = false := by rw [hne]; simp
  have HN := Ho.mk hne
  clear hne
  go_enter Tryz.func53, Tryz.ntmps53
  go_wp2
  go_loopw [5] (fun v wr => ∃ j : Int, -1 ≤ j ∧ j < l0.length ∧ v = .int .i64 j ∧ Ho (cmpTop l0 l1 (j + 1).toNat = cmpI x y) ∧ Ho (∃ k, wr = w.drewN k)) (fun v _ => (intOf v + 1).toNat)
  case atStart => exact ⟨l0.length - 1, by omega, by omega, rfl, ⟨by rw [← e.out]; congr 1; omega⟩, ⟨0, rfl⟩⟩
  case round =>
   obtain ⟨j, hj, hj1, rfl, ht, hw⟩ := hrel
   obtain ⟨kw, hw⟩ := hw.out
   subst hw
   rcases Int.lt_or_le j 0 with hz | hz
   ·obtain rfl : j = -1 := by omega
    go_wp2
    go_ret
    exact ⟨by rw [← ht.out]; rfl, kw, rfl⟩
   ·obtain ⟨m, rfl⟩ := Int.eq_ofNat_of_zero_le hz
    obtain ⟨a0, rfl, x0⟩ := h0.cell m (by omega)
    obtain ⟨a1, rfl, x1⟩ := h1.cell m (by have := HN.out; omega)
    have hm1 : (m : Int) < l1.length := by have := HN.out; omega
    rcases Int.lt_trichotomy (nth l0 m) (nth l1 m) with hq | hq | hq
    ·have ht' : Ho (cmpI x y = -1) := ⟨by rw [← ht.out, show ((m : Int) + 1).toNat = m + 1 from by omega]; simp only [cmpTop]; rw [if_neg (by omega), cmpI_lt hq]⟩
     have hqb : decide (nth l0 m < nth l1 m) = true := decide_eq_true hq
     clear ht
     go_wp2
     go_quiet (fail)
     go_wp2
     go_ret
     exact ⟨by rw [ht'.out]; rfl, _, (World.drewN_drewN _ _ _)⟩
    ·have ht' : Ho (cmpTop l0 l1 m = cmpI x y) := ⟨by rw [← ht.out, show ((m : Int) + 1).toNat = m + 1 from by omega]; simp only [cmpTop]; rw [if_pos hq]⟩
     have hqb : decide (nth l0 m < nth l1 m) = false := decide_eq_false (by omega)
     have hqb2 : decide (nth l1 m < nth l0 m) = false := decide_eq_false (by omega)
     clear hq ht
     go_wp2
     go_quiet (fail)
     go_wp2
     go_quiet (fail)
     go_wp2
     go_roundw
     case rel => exact ⟨(m : Int) - 1, by omega, by omega, rfl, ⟨by rw [← ht'.out]; congr 1; omega⟩, ⟨_, rfl⟩⟩
     case measure => simp [intOf]
    ·have ht' : Ho (cmpI x y = 1) := ⟨by rw [← ht.out, show ((m : Int) + 1).toNat = m + 1 from by omega]; simp only [cmpTop]; rw [if_neg (by omega), cmpI_gt hq]⟩
     have hqb : decide (nth l0 m < nth l1 m) = false := decide_eq_false (by omega)
     have hqb2 : decide (nth l1 m < nth l0 m) = true := decide_eq_true hq
     clear ht
     go_wp2
     go_quiet (fail)
     go_wp2
     go_quiet (fail)
     go_wp2
     go_ret
     exact ⟨by rw [ht'.out]; rfl, _, (World.drewN_drewN _ _ _).trans (World.drewN_drewN _ _ _)⟩
 ·rcases Nat.lt_or_gt_of_ne hne with hl | hl
  ·have e := Ho.mk (show cmpI x y = -1 from cmpI_lt (by have := digs_len_lt hl; omega))
   have hb : (((digs x).length : Int) != ((digs y).length : Int)) = true := by rw [bne_iff_ne]; omega
   clear hne
   go_enter Tryz.func53, Tryz.ntmps53
   go_wp2
   go_ret
   exact ⟨by rw [e.out]; rfl, 0, rfl⟩
  ·have e := Ho.mk (show cmpI x y = 1 from cmpI_gt (by have := digs_len_lt hl; omega))
   have hb : (((digs x).length : Int) != ((digs y).length : Int)) = true := by rw [bne_iff_ne]; omega
   clear hne
   go_enter Tryz.func53, Tryz.ntmps53
   go_wp2
   go_ret
   exact ⟨by rw [e.out]; rfl, 0, rfl⟩
end R3
namespace R4
open Go.RowKit Go.Proofs.YtalbgklfhabnkaaGreatDoor Ow Pl N2 R1 R2 R3
theorem add_calls (A0 A1 : Option Addr) (c0 c1 x y : Nat) (w : World) (h0 : Rd w A0 (digs x)) (h1 : Rd w A1 (digs y)) (hx : (digs x).length ≤ 50000) (hy : (digs y).length ≤ 50000) :
  Calls Tryz.prog 52 #[.slice A0 (digs x).length c0, .slice A1 (digs y).length c1] w
   fun e w' => ∃ A c, e = .returned (.slice A (digs (x + y)).length c) ∧ (digs (x + y)).length ≤ c ∧ Rd w' A (digs (x + y)) ∧ Bel w w' := by
 have F0 := Ho.mk (digs_can x).1
 have F1 := Ho.mk (digs_can y).1
 have V0 := Ho.mk (digs_val x)
 have V1 := Ho.mk (digs_val y)
 generalize digs x = l0 at *
 generalize digs y = l1 at *
 have H0 := Ho.mk h0
 have H1 := Ho.mk h1
 clear h0 h1
 go_enter Tryz.func52, Tryz.ntmps52
 go_wp2
 go_loopw [5, 6, 7] (fun v5 v6 v7 wr => ∃ (i : Nat) (c : Int) (d : List Int), v6 = .int .i64 c ∧ v7 = .int .i64 i ∧ 0 ≤ c ∧ c ≤ 1 ∧ Ho (i ≤ max l0.length l1.length ∨ c = 0 ∧ i = max l0.length l1.length + 1) ∧ i ≤ 50001 ∧
   Ho (d.length = i) ∧ Ho (Lims d) ∧ Ho (OwnI wr w.heap.size 3 1 v5 i (ints d)) ∧ Ho (Bel w wr) ∧ Ho (val d + 16777216 ^ i * (c + (val (l0.drop i) + val (l1.drop i))) = ((x + y : Nat) : Int))) (fun _ _ v7 _ => 60000 - (intOf v7).toNat)
 case atStart => exact ⟨0, 0, [], rfl, rfl, by omega, by omega, ⟨.inl (Nat.zero_le _)⟩, by omega, ⟨rfl⟩, ⟨fun x hx => by simp at hx⟩, ⟨OwnI.nil _ _ _ _⟩, ⟨Bel.refl _⟩, ⟨by simp [val]; rw [V0.out, V1.out]⟩⟩
 case round =>
  obtain ⟨i, c, d, rfl, rfl, hc0, hc1, hi, hi5, HD, HL, HO, HW, HE⟩ := hrel
  have go : (i < l0.length ∨ i < l1.length ∨ 0 < c) ∨ (l0.length ≤ i ∧ l1.length ≤ i ∧ c = 0) := by omega
  rcases go with go | ⟨ga, gb, gc⟩
  ·have him : i ≤ max l0.length l1.length := by have := hi.out; omega
   have HIM := Ho.mk him
   obtain ⟨f0, f1⟩ := F0.out.nth i
   obtain ⟨f2, f3⟩ := F1.out.nth i
   have hi5' : i + 1 ≤ 50001 := by omega
   by_cases k0 : i < l0.length
   all_goals by_cases k1 : i < l1.length
   all_goals try (have hcp : 0 < c := by omega)
   all_goals
    have hnx : Ho (i + 1 ≤ max l0.length l1.length ∨ (nth l0 i + nth l1 i + c) / 16777216 = 0 ∧ i + 1 = max l0.length l1.length + 1) := ⟨by
     by_cases hm : i + 1 ≤ max l0.length l1.length
     ·exact .inl hm
     ·have a0 := nth_ge (l := l0) (i := i) (by omega)
      have a1 := nth_ge (l := l1) (i := i) (by omega)
      rw [a0, a1]; right; omega⟩
    clear go him hi
    go_wp2_with (first | (go_at_call 88; ((with_reducible first | refine (at_calls _ _ l0 i _ (H0.out.bel HW.out)).mono ?_ | refine (at_calls _ _ l1 i _ (H1.out.bel HW.out)).mono ?_); rintro e w' ⟨rfl, rfl⟩)) | (at_builtin; refine wpList_app _ rfl (.tmp 34) (.tmp 37) 35 rfl w.heap.size 3 (.int .i64 0) 8 Tryz.underlying35 info3 rfl _ i (ints d) _ rfl HO.out rfl rfl (by omega) (by omega) HW.out.size ?_; intro v w1 hv hb1))
    go_roundw
    case rel =>
     refine ⟨i + 1, (nth l0 i + nth l1 i + c) / 16777216, d ++ [(nth l0 i + nth l1 i + c) % 16777216], rfl, by simp, by omega, by omega, hnx, hi5', ⟨by simp [HD.out]⟩, ⟨lims_append HL.out (fun z hz => by simp at hz; subst hz; omega)⟩, ⟨?_⟩, ⟨⟨HW.out.out.trans hb1⟩⟩, ⟨?_⟩⟩
     ·rw [show ints (d ++ [(nth l0 i + nth l1 i + c) % 16777216]) = ints d ++ [.int .i64 ((nth l0 i + nth l1 i + c) % 16777216)] from by simp [ints]]
      exact hv
     ·have he := HE.out
      rw [drop_step l0 i, drop_step l1 i, show nth l0 i + 16777216 * val (l0.drop (i + 1)) + (nth l1 i + 16777216 * val (l1.drop (i + 1))) = (nth l0 i + nth l1 i) + 16777216 * (val (l0.drop (i + 1)) + val (l1.drop (i + 1))) from by omega] at he
      rw [val_snoc, HD.out, Int.pow_succ]
      exact ahead_step he
    case measure => simp [intOf]; omega
  ·subst gc
   have e : Ho (trimL d = digs (x + y)) := ⟨by
    have he := HE.out
    rw [drop_nil_val ga, drop_nil_val gb] at he
    simp at he
    exact trim_digs HL.out (by rw [he]; simp)⟩
   obtain ⟨A, cc, rfl, hcc, hr⟩ := (show OwnI wr w.heap.size 3 1 _ d.length (ints d) from by rw [HD.out]; exact HO.out).rd (by rw [HD.out]; omega)
   have HR := Ho.mk hr
   clear hr hi
   go_wp2_with (go_at_call 86; (with_reducible refine (R1.trim_calls _ _ d _ HR.out hcc (by rw [HD.out]; omega)).mono ?_); rintro e w' ⟨A2, c2, rfl, hc2, hr2, hb2⟩; rw [e.out] at hc2 hr2)
   go_ret
   rw [← e.out]
   exact ⟨_, _, rfl, by rw [e.out]; exact hc2, by rw [e.out]; exact hr2, HW.out.trans hb2⟩
end R4
namespace R5
open Go.RowKit Go.Proofs.YtalbgklfhabnkaaGreatDoor Ow Pl N2 R1 R2 R3
theorem sub_calls (A0 A1 : Option Addr) (c0 c1 x y : Nat) (w : World) (h0 : Rd w A0 (digs x)) (h1 : Rd w A1 (digs y)) (hx : (digs x).length ≤ 50000) (hxy : y ≤ x) :
  Calls Tryz.prog 54 #[.slice A0 (digs x).length c0, .slice A1 (digs y).length c1] w
   fun e w' => ∃ A c, e = .returned (.tuple #[.slice A (digs (x - y)).length c, .bool true]) ∧ (digs (x - y)).length ≤ c ∧ Rd w' A (digs (x - y)) ∧ Bel w w' := by
 have hlt : decide (cmpI x y < 0) = false := by
  rcases Nat.lt_or_eq_of_le hxy with h | h
  ·rw [cmpI_gt (by omega)]; rfl
  ·rw [cmpI_eq (by omega)]; rfl
 have hcmp := fun W (g0 : Rd W A0 (digs x)) (g1 : Rd W A1 (digs y)) => R3.cmp_calls A0 A1 c0 c1 x y W g0 g1
 have HC := Ho.mk hcmp
 have F0 := Ho.mk (digs_can x).1
 have F1 := Ho.mk (digs_can y).1
 have V0 := Ho.mk (digs_val x)
 have V1 := Ho.mk (digs_val y)
 have hlen : (digs y).length ≤ (digs x).length := digs_len_le.2 (Nat.lt_of_le_of_lt hxy (digs_lt x))
 have XY := Ho.mk hxy
 clear hcmp hxy
 generalize digs x = l0 at *
 generalize digs y = l1 at *
 go_enter Tryz.func54, Tryz.ntmps54
 go_wp2_with fail
 (with_reducible refine (HC.out _ h0 h1).mono ?_); rintro e w1 ⟨rfl, hd⟩
 have hb1 : Bel w w1 := by obtain ⟨n, rfl⟩ := hd; exact (Bel.refl w).drewN n
 have H0 := Ho.mk (h0.bel hb1)
 have H1 := Ho.mk (h1.bel hb1)
 have HB1 := Ho.mk hb1
 have hw1 := hb1.size
 clear hd h0 h1 hb1
 go_wp2
 go_loopw [6, 7, 8] (fun v6 v7 v8 wr => ∃ (i : Nat) (c : Int) (d : List Int), v7 = .int .i64 c ∧ v8 = .int .i64 i ∧ 0 ≤ c ∧ c ≤ 1 ∧ i ≤ l0.length ∧
   Ho (d.length = i) ∧ Ho (Lims d) ∧ Ho (OwnI wr w1.heap.size 3 1 v6 i (ints d)) ∧ Ho (Bel w1 wr) ∧ Ho (val d + 16777216 ^ i * (-c + (val (l0.drop i) - val (l1.drop i))) = ((x - y : Nat) : Int))) (fun _ _ v8 _ => l0.length - (intOf v8).toNat)
 case atStart => exact ⟨0, 0, [], rfl, rfl, by omega, by omega, Nat.zero_le _, ⟨rfl⟩, ⟨fun x hx => by simp at hx⟩, ⟨OwnI.nil _ _ _ _⟩, ⟨Bel.refl _⟩, ⟨by have := XY.out; simp [val]; rw [V0.out, V1.out]; omega⟩⟩
 case round =>
  obtain ⟨i, c, d, rfl, rfl, hc0, hc1, hi, HD, HL, HO, HW, HE⟩ := hrel
  rcases Nat.lt_or_ge i l0.length with hlt2 | hge
  ·obtain ⟨f0, f1⟩ := F0.out.nth i
   obtain ⟨f2, f3⟩ := F1.out.nth i
   obtain ⟨ad, rfl, x0⟩ := (H0.out.bel HW.out).cell i hlt2
   have q1 : IntKind.i64.wrap (nth l0 i - nth l1 i) = nth l0 i - nth l1 i := IntWalk.i64_in _ (by omega)
   have q2 : IntKind.i64.wrap (nth l0 i - nth l1 i - c) = nth l0 i - nth l1 i - c := IntWalk.i64_in _ (by omega)
   have hi5' : i < 50001 := by omega
   by_cases hs : nth l0 i - nth l1 i - c < 0
   all_goals
    go_wp2
    go_quiet ((go_at_call 88; (refine (at_calls _ _ l1 i _ (H1.out.bel (HW.out.drewN _))).mono ?_); rintro e w' ⟨rfl, rfl⟩; exact ⟨rfl, _, rfl⟩))
    have hbq := (Bel.refl wr).drewN nq
    have HO2 := Ho.mk (HO.out.bel hbq)
    have HW2 := Ho.mk (HW.out.trans hbq)
    clear hbq HO HW x0 q1 q2
    generalize wr.drewN nq = w2 at *
    go_wp2_with (at_builtin; refine wpList_app _ rfl (.tmp 34) (.tmp 36) 35 rfl w1.heap.size 3 (.int .i64 0) 8 Tryz.underlying35 N2.info3 rfl _ i (ints d) _ rfl HO2.out rfl rfl (by omega) (by omega) HW2.out.size ?_; intro v w3 hv hb3)
    go_roundw
    case rel =>
     have he := HE.out
     rw [drop_step l0 i, drop_step l1 i, show nth l0 i + 16777216 * val (l0.drop (i + 1)) - (nth l1 i + 16777216 * val (l1.drop (i + 1))) = (nth l0 i - nth l1 i) + 16777216 * (val (l0.drop (i + 1)) - val (l1.drop (i + 1))) from by omega] at he
     have hs2 := ahead_step he
     first
      | rw [show (nth l0 i - nth l1 i + -c) % 16777216 = nth l0 i - nth l1 i - c + 16777216 from by omega, show (nth l0 i - nth l1 i + -c) / 16777216 = -1 from by omega] at hs2
      | rw [show (nth l0 i - nth l1 i + -c) % 16777216 = nth l0 i - nth l1 i - c from by omega, show (nth l0 i - nth l1 i + -c) / 16777216 = -0 from by omega] at hs2
     refine ⟨i + 1, _, d ++ [_], rfl, by simp, by omega, by omega, by omega, ⟨by simp [HD.out]⟩, ⟨?_⟩, ⟨?_⟩, ⟨⟨HW2.out.out.trans hb3⟩⟩, ⟨by rw [val_snoc, HD.out, Int.pow_succ]; exact hs2⟩⟩
     ·exact lims_append HL.out (fun z hz => by simp at hz; subst hz; omega)
     ·rw [show ∀ z, ints (d ++ [z]) = ints d ++ [.int .i64 z] from fun z => by simp [ints]]
      exact hv
    case measure => simp [intOf]; omega
  ·obtain rfl : i = l0.length := by omega
   have he := HE.out
   rw [drop_nil_val (Nat.le_refl _), drop_nil_val hlen] at he
   have hd0 := val_nonneg HL.out
   have hd1 := val_lt HL.out
   rw [HD.out] at hd1
   have hc : c = 0 := by
    rcases Int.lt_or_le 0 c with h | h
    ·obtain rfl : c = 1 := by omega
     have hn := Int.natCast_nonneg (x - y)
     rw [← he] at hn
     simp at hn
     omega
    ·omega
   subst hc
   have e : Ho (trimL d = digs (x - y)) := ⟨trim_digs HL.out (by rw [← he]; simp)⟩
   obtain ⟨A, cc, rfl, hcc, hr⟩ := (show OwnI wr w1.heap.size 3 1 _ d.length (ints d) from by rw [HD.out]; exact HO.out).rd (by rw [HD.out]; omega)
   have HR := Ho.mk hr
   have HDD := Ho.mk HD.out
   clear hr he hd0 hd1
   go_wp2_with (go_at_call 86; (with_reducible refine (R1.trim_calls _ _ d _ HR.out hcc (by rw [HDD.out]; omega)).mono ?_); rintro e w' ⟨A2, c2, rfl, hc2, hr2, hb2⟩; rw [e.out] at hc2 hr2)
   go_ret2
   rw [← e.out]
   exact ⟨_, _, rfl, by rw [e.out]; exact hc2, by rw [e.out]; exact hr2, (HB1.out.trans HW.out).trans hb2⟩
end R5
namespace Ow
open Go.RowKit
theorem step_app {P : Program} {w : World} {ops : Array Oper} {o : Oper} {a : Act} {K : Act → World → Prop} {Q : Exit → Act → World → Prop} {E : Prop} (hgd : o.guard = none) (s x : Operand) (t : TypeId)
  (ho : o.op = .call { callee := .builtin .append, args := #[s, x], argTypes := #[t, t] })
  (B e : Nat) (z : Value) (bytes : Nat) (ht : P.underlying t = some (.slice e)) (hinfo : (P.info? e).map (fun i => (i.zero, i.size, i.bytes)) = some (some z, 1, bytes)) (hz1 : z.cells = #[z])
  (v : Value) (n : Nat) (cs : List Value) (u : Value) (hs : a.eval s = v) (hown : OwnI w B e 1 v n cs) (hx : a.eval x = .slice (some ⟨w.heap.size, 0, none⟩) 1 1) (hu : u.oneCell' = true)
  (h63 : n < 1000000000000) (hbytes : bytes ≤ 100) (hB : B ≤ w.heap.size)
  (hK : ∀ v' w', OwnI w' B e 1 v' (n + 1) (cs ++ [u]) → Below B w w' → K (a.put o.dst v') w') :
  if Region.wanted o (yielded ops a.tmps) = true then Oper.wp P o a (w.alloc (.cells #[u] e)) K Q else E := by
 have hw : Region.wanted o (yielded ops a.tmps) = true := by simp [Region.wanted, hgd]
 rw [if_pos hw]
 obtain ⟨i, hi, hzz⟩ := Option.map_eq_some_iff.1 hinfo
 simp only [Prod.mk.injEq] at hzz
 obtain ⟨hz, hsz, hb⟩ := hzz
 refine wp_append_own _ s x t ho B e i z 1 bytes ht hi hz hsz hb (by rw [hz1]; rfl) (by decide) v n cs hs (hown.out.alloc _) ⟨w.heap.size, 0, none⟩ 1 1 [u] hx rfl ?_ ?_ ?_ ?_ ?_ ?_
 ·intro j u' hj
  cases j with
  | zero => simp at hj; subst hj; simp [Addr.add]
  | succ j => simp at hj
 ·intro u' hu'; simp at hu'; subst hu'; exact hu
 ·simp only [maxLen]; omega
 ·have : (n + 1) * bytes ≤ 1000000000000 * 100 := Nat.mul_le_mul (by omega) hbytes
  omega
 ·simp; omega
 ·intro v' w' h1 h2 _
  refine hK v' w' ⟨h1⟩ ?_
  have hA : Below B w (w.alloc (.cells #[u] e)) := (Below.refl B w).alloc hB _
  refine hA.grown h2 (by simp; omega) (fun k hk => ?_)
  rcases hown.out.2 with ⟨rfl, _⟩ | ⟨g, cap, cur, rfl, hg, _⟩
  ·simp [Value.ownBlock] at hk
  ·simp [Value.ownBlock] at hk; omega
end Ow
namespace R7
open Go.RowKit Go.Proofs.YtalbgklfhabnkaaGreatDoor Ow Pl N2 R1
theorem shl_calls (A0 : Option Addr) (c0 x kn : Nat) (k : Int) (w : World) (h0 : Rd w A0 (digs x)) (hc0 : (digs x).length ≤ c0)
  (hx : (digs x).length ≤ 50000) (hk : kn = k.toNat) (hkn : kn ≤ 100000) :
  Calls Tryz.prog 50 #[.slice A0 (digs x).length c0, .int .i64 k] w
   fun e w' => ∃ A c, e = .returned (.slice A (digs (x * 2 ^ kn)).length c) ∧ (digs (x * 2 ^ kn)).length ≤ c ∧ Rd w' A (digs (x * 2 ^ kn)) ∧ Bel w w' := by
 rcases Int.lt_or_le 0 k with hpos | hneg
 ·rcases Nat.eq_zero_or_pos x with hz | hz
  ·subst hz
   have e : Ho (digs (0 * 2 ^ kn) = digs 0) := ⟨by rw [Nat.zero_mul]⟩
   rw [e.out]
   have hb : decide (k ≤ 0) = false := decide_eq_false (by omega)
   have hlen : ((digs 0).length : Int) = 0 := by rw [digs_zero]; rfl
   have HL := Ho.mk hlen
   have hlb : (((digs 0).length : Int) == 0) = true := by rw [hlen]; rfl
   clear hlen
   go_enter Tryz.func50, Tryz.ntmps50
   go_wp2_with (go_at_call 86; (with_reducible refine (trim_calls _ _ (digs 0) _ h0 hc0 (by omega)).mono ?_); rintro e w' ⟨A2, c2, rfl, hc2, hr2, hb2⟩; rw [trim_self] at hc2 hr2)
   go_ret
   exact ⟨A2, c2, by rw [trim_self]; rfl, hc2, hr2, hb2⟩
  ·obtain ⟨kk, rfl⟩ := Int.eq_ofNat_of_zero_le (Int.le_of_lt hpos)
   rw [Int.toNat_natCast] at hk
   subst hk
   have F0 := Ho.mk (digs_can x).1
   have HF := Ho.mk (shl_digs x kn)
   have hlp : 0 < (digs x).length := List.length_pos_iff.2 (fun e => by have := digs_nil.1 e; omega)
   have hlb : (((digs x).length : Int) == 0) = false := beq_eq_false_iff_ne.mpr (by omega)
   generalize digs x = l at *
   have H0 := Ho.mk h0
   obtain ⟨sk, hsk⟩ : ∃ sk, sk = kn / 24 := ⟨_, rfl⟩
   obtain ⟨by_, hby⟩ : ∃ b, b = kn % 24 := ⟨_, rfl⟩
   obtain ⟨p, hp⟩ : ∃ p : Int, p = ((2 ^ by_ : Nat) : Int) := ⟨_, rfl⟩
   have hq : (kn : Int) / 24 = sk := by omega
   have hr : (kn : Int) % 24 = by_ := by omega
   have hby24 : by_ < 24 := by omega
   have HPW : Ho (wrap64 (2 ^ by_) = p) := ⟨by
    have := (shl_wrap (x := 1) (by decide) (by decide) hby24).1
    rw [Int.one_mul, Int.one_mul] at this
    rw [hp]; exact this⟩
   have hp1 : 1 ≤ p := by rw [hp]; have := Nat.two_pow_pos by_; omega
   have hp2 : p ≤ 8388608 := by rw [hp]; have := p2_lt hby24; omega
   have hb : decide ((kn : Int) ≤ 0) = false := decide_eq_false (by omega)
   have HPP := Ho.mk hp
   have HSK := Ho.mk hsk
   have HBY := Ho.mk hby
   have hsk5 : sk ≤ 5000 := by omega
   clear hsk hby hp h0
   go_enter Tryz.func50, Tryz.ntmps50
   go_wp2_with (at_make; refine wpList_mk _ rfl _ _ 35 rfl 3 (.int .i64 0) 8 Tryz.underlying35 N2.info3 rfl sk rfl rfl (by omega) (by omega) ?_; intro w1 hk1 hl1 hs1)
   rw [HPW.out, hr]
   have HK1 : Ho (OwnI w1 w.heap.size 3 1 (.slice (some ⟨w.heap.size, 0, none⟩) sk sk) sk (ints (List.replicate sk 0))) := ⟨by rw [← ints_rep]; exact hk1.own (by simp) (Nat.le_refl _) (by omega)⟩
   have HL1 := Ho.mk hl1
   clear hk1 hl1 hs1 HPW
   go_loopw [5, 7, 8] (fun v5 v7 v8 wr => ∃ (i : Nat) (c : Int) (d : List Int), i ≤ l.length ∧ v8 = .int .i64 i ∧ v7 = .int .i64 c ∧ 0 ≤ c ∧ c < 16777216 ∧ Ho (d.length = i) ∧ Ho (OwnI wr w.heap.size 3 1 v5 (sk + i) (ints (List.replicate sk 0 ++ d))) ∧ Ho (Bel w wr) ∧ Ho (Lims d) ∧
    Ho (d ++ limbs (l.length + 1 - i) c (fun j => nth l (i + j) * p) = limbs (l.length + 1) 0 (fun j => nth l j * p))) (fun _ _ v8 _ => l.length - (intOf v8).toNat)
   case atStart => exact ⟨0, 0, [], Nat.zero_le _, rfl, rfl, by omega, by omega, ⟨rfl⟩, ⟨by rw [List.append_nil]; exact HK1.out⟩, HL1, ⟨fun x hx => by simp at hx⟩, ⟨by simp⟩⟩
   case round =>
    obtain ⟨i, c, d, hi, rfl, rfl, hc0', hc1', HD, HO, HW, HLd, HE⟩ := hrel
    rcases Nat.lt_or_ge i l.length with hlt | hge
    ·obtain ⟨ad, rfl, x0⟩ := (H0.out.bel HW.out).cell i hlt
     obtain ⟨g0, g1⟩ := F0.out.nth i
     have p0 : 0 ≤ nth l i * p := Int.mul_nonneg g0 (by omega)
     have p1 : nth l i * p ≤ 140737479966720 := by
      have a : nth l i * p ≤ nth l i * 8388608 := Int.mul_le_mul_of_nonneg_left hp2 g0
      omega
     go_wp2_with (at_builtin; refine wpList_app _ rfl (.tmp 39) (.tmp 42) 35 rfl w.heap.size 3 (.int .i64 0) 8 Tryz.underlying35 N2.info3 rfl _ (sk + i) (ints (List.replicate sk 0 ++ d)) _ rfl HO.out rfl rfl (by omega) (by omega) HW.out.size ?_; intro v w2 hv hb2)
     go_roundw
     case rel =>
      have hd := limbs_step (fun j => nth l j * p) i (l.length + 1) c d (by omega)
      refine ⟨i + 1, (nth l i * p + c) / 16777216, d ++ [(nth l i * p + c) % 16777216], by omega, by simp, rfl, ?_, ?_, ⟨by simp [HD.out]⟩, ⟨?_⟩, ⟨⟨HW.out.out.trans hb2⟩⟩, ⟨lims_append HLd.out (fun z hz => by simp at hz; subst hz; omega)⟩, ⟨by rw [hd]; exact HE.out⟩⟩
      ·generalize nth l i * p = z at p0 p1 ⊢
       omega
      ·generalize nth l i * p = z at p0 p1 ⊢
       omega
      ·rw [← List.append_assoc, show ∀ (a : List Int) z, ints (a ++ [z]) = ints a ++ [.int .i64 z] from fun a z => by simp [ints]]
       exact hv
     case measure => simp [intOf]; omega
    ·obtain rfl : i = l.length := by omega
     have he := HE.out
     rw [show l.length + 1 - l.length = 1 from by omega] at he
     have hlast : limbs 1 c (fun j => nth l (l.length + j) * p) = [c] := by
      simp only [limbs, Nat.add_zero]
      rw [nth_ge (Nat.le_refl _), Int.zero_mul, Int.zero_add, Int.emod_eq_of_lt hc0' hc1']
     rw [hlast] at he
     have e : Ho (trimL (List.replicate sk 0 ++ (d ++ [c])) = digs (x * 2 ^ kn)) := ⟨by rw [he, HPP.out, HSK.out, HBY.out]; exact HF.out⟩
     clear he hlast hi
     go_wp2_with (at_builtin; refine wpList_app _ rfl (.tmp 46) (.tmp 48) 35 rfl w.heap.size 3 (.int .i64 0) 8 Tryz.underlying35 N2.info3 rfl _ (sk + l.length) (ints (List.replicate sk 0 ++ d)) _ rfl HO.out rfl rfl (by omega) (by omega) HW.out.size ?_; intro v w2 hv hb2)
     have hlen : (List.replicate sk (0 : Int) ++ (d ++ [c])).length = sk + l.length + 1 := by simp [HD.out]; omega
     obtain ⟨A, cc, rfl, hcc, hr2⟩ := (show OwnI w2 w.heap.size 3 1 v (List.replicate sk (0 : Int) ++ (d ++ [c])).length (ints (List.replicate sk 0 ++ (d ++ [c]))) from by
      rw [hlen, ← List.append_assoc, show ∀ (a : List Int) z, ints (a ++ [z]) = ints a ++ [.int .i64 z] from fun a z => by simp [ints]]; exact hv).rd (by rw [hlen]; omega)
     have HR := Ho.mk hr2
     have HLEN := Ho.mk hlen
     clear hr2 hv hlen
     go_wp2_with (go_at_call 86; (with_reducible refine (trim_calls _ _ _ _ HR.out hcc (by rw [HLEN.out]; omega)).mono ?_); rintro e w' ⟨A2, c2, rfl, hc2, hr2, hb3⟩; rw [e.out] at hc2 hr2)
     go_ret
     rw [← e.out]
     exact ⟨_, _, rfl, by rw [e.out]; exact hc2, by rw [e.out]; exact hr2, (Bel.mk (HW.out.out.trans hb2)).trans hb3⟩
 ·have hk0 : kn = 0 := by omega
  have e : Ho (digs (x * 2 ^ kn) = digs x) := ⟨by rw [hk0]; simp⟩
  rw [e.out]
  have hb : decide (k ≤ 0) = true := decide_eq_true hneg
  go_enter Tryz.func50, Tryz.ntmps50
  go_wp2_with (go_at_call 86; (with_reducible refine (trim_calls _ _ (digs x) _ h0 hc0 (by omega)).mono ?_); rintro e w' ⟨A2, c2, rfl, hc2, hr2, hb2⟩; rw [trim_self] at hc2 hr2)
  go_ret
  exact ⟨A2, c2, by rw [trim_self]; rfl, hc2, hr2, hb2⟩
theorem nth_drop (l : List Int) (a b : Nat) : nth (l.drop a) b = nth l (a + b) := by simp [nth]
theorem shr_val {a b p q : Int} (a0 : 0 ≤ a) (a1 : a < 16777216) (b0 : 0 ≤ b) (b1 : b < 16777216) (hp : 1 ≤ p) (hp2 : p ≤ 8388608) (hpq : p * q = 16777216) :
  IntKind.i64.wrap (IntKind.i64.wrap (a.tdiv p) + IntKind.i64.wrap (b.tmod p * IntKind.i64.wrap (Int.tdiv 16777216 p))) = a / p + b * q % 16777216 := by
 rw [← shr_limb (by omega) hpq, Int.tdiv_eq_ediv_of_nonneg a0, Int.tmod_eq_emod_of_nonneg b0, Int.tdiv_eq_ediv_of_nonneg (by decide)]
 have hq : 16777216 / p = q := by rw [← hpq]; exact Int.mul_ediv_cancel_left _ (by omega)
 have hl := limb_or (y := b) a0 a1 (by omega) hpq b0
 have h1 : 0 ≤ b % p := Int.emod_nonneg _ (by omega)
 have h2 : b % p < p := Int.emod_lt_of_pos _ (by omega)
 have hq0 : 0 ≤ q := by omega
 have h3 : 0 ≤ b % p * q := Int.mul_nonneg h1 hq0
 have h4 : b % p * q ≤ p * q := Int.mul_le_mul_of_nonneg_right (by omega) hq0
 have h5 : q ≤ 16777216 := by
  have : 1 * q ≤ p * q := Int.mul_le_mul_of_nonneg_right hp hq0
  omega
 have h6 : 0 ≤ a / p := Int.ediv_nonneg a0 (by omega)
 rw [hq, IntWalk.i64_in q (by omega), IntWalk.i64_in (a / p) (by omega), IntWalk.i64_in (b % p * q) (by omega), IntWalk.i64_in _ (by omega)]
theorem shr_calls (A0 : Option Addr) (c0 x kn : Nat) (k : Int) (w : World) (h0 : Rd w A0 (digs x)) (hc0 : (digs x).length ≤ c0)
  (hx : (digs x).length ≤ 50000) (hk : kn = k.toNat) (hkn : kn ≤ 100000) :
  Calls Tryz.prog 87 #[.slice A0 (digs x).length c0, .int .i64 k] w
   fun e w' => ∃ A c, e = .returned (.slice A (digs (x / 2 ^ kn)).length c) ∧ (digs (x / 2 ^ kn)).length ≤ c ∧ Rd w' A (digs (x / 2 ^ kn)) ∧ Bel w w' := by
 rcases Int.lt_or_le 0 k with hpos | hneg
 ·obtain ⟨kk, rfl⟩ := Int.eq_ofNat_of_zero_le (Int.le_of_lt hpos)
  rw [Int.toNat_natCast] at hk
  subst hk
  have F0 := Ho.mk (digs_can x).1
  have HF := Ho.mk (shr_digs x kn)
  generalize digs x = l at *
  have H0 := Ho.mk h0
  obtain ⟨sk, hsk⟩ : ∃ sk, sk = kn / 24 := ⟨_, rfl⟩
  obtain ⟨by_, hby⟩ : ∃ b, b = kn % 24 := ⟨_, rfl⟩
  obtain ⟨p, hp⟩ : ∃ p : Int, p = ((2 ^ by_ : Nat) : Int) := ⟨_, rfl⟩
  obtain ⟨q, hqq⟩ : ∃ q : Int, q = ((2 ^ (24 - by_) : Nat) : Int) := ⟨_, rfl⟩
  have hq : (kn : Int) / 24 = sk := by omega
  have hr : (kn : Int) % 24 = by_ := by omega
  have hby24 : by_ < 24 := by omega
  have HPW : Ho (wrap64 (2 ^ by_) = p) := ⟨by
   have := (shl_wrap (x := 1) (by decide) (by decide) hby24).1
   rw [Int.one_mul, Int.one_mul] at this
   rw [hp]; exact this⟩
  have hp1 : 1 ≤ p := by rw [hp]; have := Nat.two_pow_pos by_; omega
  have hp2 : p ≤ 8388608 := by rw [hp]; have := p2_lt hby24; omega
  have hpq : p * q = 16777216 := by
   rw [hp, hqq, ← Int.natCast_mul, ← Nat.pow_add, show by_ + (24 - by_) = 24 from by omega]; rfl
  have hqv : 16777216 / p = q := by rw [← hpq]; exact Int.mul_ediv_cancel_left _ (by omega)
  have HPQ := Ho.mk hpq
  have HQV := Ho.mk hqv
  have hb : decide ((kn : Int) ≤ 0) = false := decide_eq_false (by omega)
  obtain ⟨S, hS⟩ : ∃ S, S = shrL p q (l.drop sk) := ⟨_, rfl⟩
  have HSS := Ho.mk hS
  have HFS : Ho (trimL S = digs (x / 2 ^ kn)) := ⟨by rw [hS, hp, hqq, hsk, hby]; exact HF.out⟩
  have HSL : Ho (S.length = l.length - sk) := ⟨by rw [hS, shrL_len, List.length_drop]⟩
  have hsk5 : sk ≤ 5000 := by omega
  clear hsk hby hp h0 hqq hpq hqv hS HF
  go_enter Tryz.func87, Tryz.ntmps87
  go_wp2
  try rw [HPW.out]
  try rw [hr]
  rw [show decide (kn = 0) = false from decide_eq_false (by omega)]
  go_loopw [7, 8] (fun v7 v8 wr => ∃ (i j : Nat), i ≤ l.length - sk ∧ j ≤ l.length + sk ∧ Ho (j = sk + i) ∧ v8 = .int .i64 (j : Int) ∧ Ho (OwnI wr w.heap.size 3 1 v7 i (ints (S.take i))) ∧ Ho (Bel w wr)) (fun _ v8 _ => sk + l.length - (intOf v8).toNat)
  case atStart => exact ⟨0, sk, Nat.zero_le _, by omega, ⟨by omega⟩, rfl, ⟨OwnI.nil _ _ _ _⟩, ⟨Bel.refl _⟩⟩
  case round =>
   obtain ⟨i, j, hi, hj2, hj, rfl, HO, HW⟩ := hrel
   rcases Nat.lt_or_ge j l.length with hlt | hge
   ·obtain ⟨ad, rfl, x0⟩ := (H0.out.bel HW.out).cell j hlt
    obtain ⟨g0, g1⟩ := F0.out.nth j
    obtain ⟨f0, f1⟩ := F0.out.nth (j + 1)
    have hij : i < 1000000000000 := by omega
    have hi2 : i + 1 ≤ l.length - sk := by have := hj.out; omega
    have hi3 : i < S.length := by have := HSL.out; omega
    have q1 : IntKind.i64.wrap ((j : Int) + 1) = ((j + 1 : Nat) : Int) := by rw [IntWalk.i64_in _ (by omega)]; rfl
    have hpz : ¬ p = 0 := by omega
    have E : Ho (IntKind.i64.wrap (IntKind.i64.wrap ((nth l j).tdiv p) + IntKind.i64.wrap ((nth l (j + 1)).tmod p * IntKind.i64.wrap (Int.tdiv 16777216 p))) = nth S i) := ⟨by
     rw [shr_val g0 g1 f0 f1 hp1 hp2 HPQ.out, HSS.out, shrL_nth _ _ _ _ (by rw [List.length_drop]; have := hj.out; omega), nth_drop, nth_drop, hj.out, Nat.add_assoc]⟩
    go_wp2
    go_region_law (first | (refine step_app rfl (.tmp 25) (.tmp 42) 35 rfl w.heap.size 3 (.int .i64 0) 8 Tryz.underlying35 N2.info3 rfl u7 i (ints (S.take i)) _ rfl HO.out.drew rfl rfl hij (by omega) HW.out.size ?_; intro v w2 hv hb2) | (go_simp; go_at_call 88; refine (at_calls (some ad) c0 l (j + 1) _ ((H0.out.bel HW.out).bel (Bel.refl _).drew)).mono ?_; rintro e w' ⟨rfl, rfl⟩))
    all_goals
     rw [E.out] at hv
     go_wp2
     go_roundw
     case rel =>
      refine ⟨i + 1, j + 1, by omega, by omega, ⟨by have := hj.out; omega⟩, rfl, ⟨?_⟩, ⟨⟨HW.out.out.trans (((Below.refl _ _).drew).trans hb2)⟩⟩⟩
      rw [List.take_succ_eq_append_getElem hi3, ← nth_lt hi3, show ∀ (a : List Int) z, ints (a ++ [z]) = ints a ++ [.int .i64 z] from fun a z => by simp [ints]]
      exact hv
     case measure => simp [intOf]; omega
   ·have hil : Ho (S.take i = S) := ⟨List.take_of_length_le (by have := HSL.out; have := hj.out; omega)⟩
    rw [hil.out] at HO
    have hSi : S.length = i := by have := HSL.out; have := hj.out; omega
    obtain ⟨A, cc, rfl, hcc, hr2⟩ := (show OwnI wr w.heap.size 3 1 u7 S.length (ints S) from by rw [hSi]; exact HO.out).rd (by omega)
    have HR := Ho.mk hr2
    clear hr2 HO
    have hS2 : S.length ≤ 200000 := by omega
    clear hSi
    go_wp2_with (go_at_call 86; (with_reducible refine (trim_calls _ _ _ _ HR.out hcc hS2).mono ?_); rintro e w' ⟨A2, c2, rfl, hc2, hr2, hb3⟩; rw [HFS.out] at hc2 hr2)
    go_ret
    rw [← HFS.out]
    exact ⟨_, _, rfl, by rw [HFS.out]; exact hc2, by rw [HFS.out]; exact hr2, HW.out.trans hb3⟩
 ·have hk0 : kn = 0 := by omega
  have e : Ho (digs (x / 2 ^ kn) = digs x) := ⟨by rw [hk0]; simp⟩
  rw [e.out]
  have hb : decide (k ≤ 0) = true := decide_eq_true hneg
  go_enter Tryz.func87, Tryz.ntmps87
  go_wp2_with (go_at_call 86; (with_reducible refine (trim_calls _ _ (digs x) _ h0 hc0 (by omega)).mono ?_); rintro e w' ⟨A2, c2, rfl, hc2, hr2, hb2⟩; rw [trim_self] at hc2 hr2)
  go_ret
  exact ⟨A2, c2, by rw [trim_self]; rfl, hc2, hr2, hb2⟩
end R7
namespace D2
open Go.RowKit Go.Proofs.YtalbgklfhabnkaaGreatDoor Ow Pl N2 Dp D1
theorem make_calls (A : Option Addr) (c x : Nat) (n : Bool) (e : Int) (w : World) (h : Rd w A (digs x)) (hc : (digs x).length ≤ c) (hx : (digs x).length ≤ 4000) (he0 : -50000 ≤ e) (he1 : e ≤ 50000) :
  Calls Tryz.prog 51 #[.bool n, .slice A (digs x).length c, .int .i64 e] w
   fun r w' => ∃ A c, r = .returned (.agg #[.bool (dneg (sc n x e)), .slice A (digs (dm (sc n x e))).length c, .int .i64 (de (sc n x e))]) ∧ (digs (dm (sc n x e))).length ≤ c ∧ Rd w' A (digs (dm (sc n x e))) ∧ Bel w w' := by
 rcases Nat.eq_zero_or_pos x with h0 | h0
 ·subst h0
  rw [sc_zero, show dm 0 = 0 from odd_zero, digs_zero, dneg_zero, de_zero]
  go_enter Tryz.func51, Tryz.ntmps51
  go_wp2
  refine bodyPost_ret (v := .agg #[.bool false, .slice none 0 0, .int .i64 0]) (by simp [results, Tryz.f51, go_sem]) rfl ⟨none, 0, rfl, Nat.le_refl _, Rd.nil _ _, (Bel.refl w).alloc _⟩
 ·have hx0 : x ≠ 0 := by omega
  have E := Ho.mk (show dneg (sc n x e) = n ∧ dm (sc n x e) = odd x ∧ de (sc n x e) = e + tz x from ⟨sc_neg hx0, sc_m _ _ _, sc_e hx0 (by unfold K; omega)⟩)
  rw [E.out.1, E.out.2.1, E.out.2.2]
  have hlb : (((digs x).length : Int) == 0) = false := beq_eq_false_iff_ne.mpr (fun q => hx0 (digs_nil.1 (List.length_eq_zero_iff.1 (Int.ofNat.inj q))))
  obtain ⟨T, hT⟩ : ∃ T, T = tz x := ⟨_, rfl⟩
  have HT := Ho.mk hT
  have hT1 : T ≤ 96000 := by
   have h1 := odd_eq x
   have h2 : 2 ^ tz x ≤ x := by
    have hp := odd_pos hx0
    have := Nat.mul_le_mul_right (2 ^ tz x) (show 1 ≤ odd x by omega)
    omega
   have h3 := Nat.lt_of_le_of_lt h2 (blen_lt x)
   have h4 := (Nat.pow_lt_pow_iff_right (by decide : 1 < 2)).1 h3
   have h5 := blen_len x
   omega
  rw [← hT]
  have SH := Ho.mk (fun (k : Nat) (hk : k ≤ 100000) (W : World) (g : Bel w W) => R7.shr_calls A c x k (k : Int) W (h.bel g) hc (by omega) (Int.toNat_natCast k).symm hk)
  clear hT E h hx
  go_enter Tryz.func51, Tryz.ntmps51
  go_wp2
  have KB := Ho.mk (Blk.new w [.bool false, .slice none 0 0, .int .i64 0] 37)
  have HB0 := Ho.mk ((Bel.refl w).alloc (.cells #[.bool false, .slice none 0 0, .int .i64 0] 37))
  generalize w.alloc (.cells #[.bool false, .slice none 0 0, .int .i64 0] 37) = w0 at *
  have step : ∀ k, k ≤ T → x / 2 ^ k = odd x * 2 ^ (T - k) := by
   intro k hk
   conv => lhs; rw [← odd_eq x]
   rw [← HT.out, show T = (T - k) + k from by omega, Nat.pow_add, ← Nat.mul_assoc, Nat.mul_div_cancel _ (Nat.two_pow_pos k), Nat.add_sub_cancel]
  have ST := Ho.mk step
  clear step
  go_loopw [7] (fun v7 wr => ∃ k : Nat, k ≤ T ∧ v7 = .int .i64 k ∧ Ho (Bel w0 wr)) (fun v7 _ => T - (intOf v7).toNat)
  case atStart => exact ⟨0, Nat.zero_le _, rfl, ⟨Bel.refl _⟩⟩
  case round =>
   obtain ⟨k, hk, rfl, HW⟩ := hrel
   go_wp2_with fail
   (with_reducible refine (SH.out k (by omega) wr (HB0.out.trans HW.out)).mono ?_); rintro r w1 ⟨A1, c1, rfl, hc1, hr1, hb1⟩
   have HB1 := Ho.mk (HW.out.trans hb1)
   have hy : x / 2 ^ k ≠ 0 := by
    rw [ST.out k hk]; exact Nat.ne_of_gt (Nat.mul_pos (Nat.pos_of_ne_zero (odd_pos hx0)) (Nat.two_pow_pos _))
   have hl : 0 < (digs (x / 2 ^ k)).length := List.length_pos_iff.2 (fun q => hy (digs_nil.1 q))
   obtain ⟨ad, rfl, x0⟩ := hr1.cell 0 hl
   have x1 := x0
   rw [show ad.add 0 = ad from by unfold Addr.add; simp] at x1
   obtain ⟨z, hz⟩ : ∃ z, z = nth (digs (x / 2 ^ k)) 0 := ⟨_, rfl⟩
   rw [← hz] at x0 x1
   have hzm : z % 2 = ((odd x * 2 ^ (T - k) % 2 : Nat) : Int) := by
    rw [hz, nth0, ST.out k hk]; omega
   have hz0 : 0 ≤ z := by rw [hz, nth0]; omega
   have hz1 : z < 16777216 := by rw [hz, nth0]; omega
   clear hz hr1 hb1 hy hc1
   generalize digs (x / 2 ^ k) = l1 at *
   rcases Nat.lt_or_eq_of_le hk with hlt | heq
   ·have hzb : (z % 2 == 0) = true := by
     rw [hzm, show T - k = (T - k - 1) + 1 from by omega, Nat.pow_succ, ← Nat.mul_assoc, Nat.mul_mod_left]; rfl
    clear hzm
    go_wp2
    go_roundw
    case rel => exact ⟨k + 1, by omega, by simp, HB1⟩
    case measure => simp [intOf]; omega
   ·subst heq
    have hzb : (z % 2 == 0) = false := by
     rw [hzm, Nat.sub_self, Nat.pow_zero, Nat.mul_one, odd_odd hx0]; rfl
    clear hzm
    go_wp2_with fail
    (with_reducible refine (SH.out k (by omega) w1 (HB0.out.trans HB1.out)).mono ?_); rintro r w2 ⟨A2, c2, rfl, hc2, hr2, hb2⟩
    have hxo : x / 2 ^ k = odd x := by rw [ST.out k (Nat.le_refl _), Nat.sub_self, Nat.pow_zero, Nat.mul_one]
    rw [hxo] at hc2 hr2 ⊢
    have HB2 := Ho.mk (HB1.out.trans hb2)
    have KB2 := Ho.mk (KB.out.bel HB2.out)
    obtain ⟨y0, y1, y2⟩ := KB2.out.c3
    have z0 := KB2.out.free 0
    have z1 := KB2.out.free 1
    have z2 := KB2.out.free 2
    have HR2 := Ho.mk hr2
    clear hr2 hb2 hxo x0 x1
    go_wp2
    have KF := ((KB2.out.set 0 (.bool n)).set 1 (.slice A2 (digs (odd x)).length c2)).set 2 (.int .i64 (e + (k : Int)))
    have RF := rd_set3 HR2.out (fun ad2 he => by subst he; exact rd_far KB2.out (fun z => by simp) HR2.out (odd_pos hx0)) (.bool n) (.slice A2 (digs (odd x)).length c2) (.int .i64 (e + (k : Int)))
    have BF := (((HB0.out.trans HB2.out).out.setCell (p := ⟨w.heap.size, 0, none⟩) (Nat.le_refl _) (.bool n)).setCell (p := ⟨w.heap.size, 1, none⟩) (Nat.le_refl _) (.slice A2 (digs (odd x)).length c2)).setCell (p := ⟨w.heap.size, 2, none⟩) (Nat.le_refl _) (.int .i64 (e + (k : Int)))
    clear y0 y1 y2 z0 z1 z2
    generalize ((w2.setCell ⟨w.heap.size, 0, none⟩ (.bool n)).setCell ⟨w.heap.size, 1, none⟩ (.slice A2 (digs (odd x)).length c2)).setCell ⟨w.heap.size, 2, none⟩ (.int .i64 (e + (k : Int))) = w3 at *
    exact bodyPost_ret (v := .agg #[.bool n, .slice A2 (digs (odd x)).length c2, .int .i64 (e + (k : Int))]) (res3 (fn := Tryz.f51) rfl rfl KF) rfl ⟨A2, c2, rfl, hc2, RF, ⟨BF⟩⟩
end D2
namespace D5
open Go.RowKit Go.Proofs.YtalbgklfhabnkaaGreatDoor Ow Pl N2 Dp D1 D2 D3
theorem of_calls (n : Int) (w : World) (h0 : -9223372036854775807 ≤ n) (h1 : n ≤ 9223372036854775807) :
  Calls Tryz.prog 26 #[.int .i64 n] w (Gives w (sc (decide (n < 0)) n.natAbs 0)) := by
 have hl : (digs n.natAbs).length ≤ 3 := of_len (by omega)
 have OF := Ho.mk (fun (m : Int) (hm : n.natAbs = m.toNat) (hm2 : m ≤ 9223372036854775807) (W : World) => R2.refOf_calls m n.natAbs W hm hm2)
 have MK := Ho.mk (fun (b : Bool) (A : Option Addr) (c : Nat) (W : World) (g : Rd W A (digs n.natAbs)) (hc : (digs n.natAbs).length ≤ c) => make_calls A c n.natAbs b 0 W g hc (by omega) (by omega) (by omega))
 have KB := Ho.mk (Blk.new w [.bool false, .slice none 0 0, .int .i64 0] 37)
 have HB := Ho.mk ((Bel.refl w).alloc (.cells #[.bool false, .slice none 0 0, .int .i64 0] 37))
 rcases Int.lt_or_le n 0 with hn | hn
 ·have hm : Ho (n.natAbs = (-n).toNat) := ⟨by omega⟩
  have MK2 := Ho.mk (MK.out true)
  rw [show decide (n < 0) = true from decide_eq_true hn] at *
  obtain ⟨r, hr⟩ : ∃ r, r = sc true n.natAbs 0 := ⟨_, rfl⟩
  rw [← hr] at MK2 ⊢
  clear hr hl MK
  go_enter Tryz.func26, Tryz.ntmps26
  go_wp2_with fail
  (with_reducible refine (OF.out (-n) hm.out (by omega) _).mono ?_); rintro e w1 ⟨A3, c3, rfl, hc3, hr3, hb3⟩
  go_wp2_with fail
  (with_reducible refine (MK2.out _ _ _ hr3 hc3).mono ?_); rintro e w2 ⟨A4, c4, rfl, hc4, hr4, hb4⟩
  have KB2 := Ho.mk (KB.out.bel (hb3.trans hb4))
  have HB2 := Ho.mk (HB.out.trans (hb3.trans hb4))
  obtain ⟨y0, y1, y2⟩ := KB2.out.c3
  have z0 := KB2.out.free 0
  have z1 := KB2.out.free 1
  have z2 := KB2.out.free 2
  have HR4 := Ho.mk hr4
  clear hr4 hr3 hb3 hb4
  go_wp2
  exact gives_end (fn := Tryz.f26) rfl rfl HB2.out (by omega) KB2.out HR4.out hc4
 ·have hm : Ho (n.natAbs = n.toNat) := ⟨by omega⟩
  have MK2 := Ho.mk (MK.out false)
  rw [show decide (n < 0) = false from decide_eq_false (by omega)] at *
  obtain ⟨r, hr⟩ : ∃ r, r = sc false n.natAbs 0 := ⟨_, rfl⟩
  rw [← hr] at MK2 ⊢
  clear hr hl MK
  go_enter Tryz.func26, Tryz.ntmps26
  go_wp2_with fail
  (with_reducible refine (OF.out n hm.out (by omega) _).mono ?_); rintro e w1 ⟨A3, c3, rfl, hc3, hr3, hb3⟩
  go_wp2_with fail
  (with_reducible refine (MK2.out _ _ _ hr3 hc3).mono ?_); rintro e w2 ⟨A4, c4, rfl, hc4, hr4, hb4⟩
  have KB2 := Ho.mk (KB.out.bel (hb3.trans hb4))
  have HB2 := Ho.mk (HB.out.trans (hb3.trans hb4))
  obtain ⟨y0, y1, y2⟩ := KB2.out.c3
  have z0 := KB2.out.free 0
  have z1 := KB2.out.free 1
  have z2 := KB2.out.free 2
  have HR4 := Ho.mk hr4
  clear hr4 hr3 hb3 hb4
  go_wp2
  exact gives_end (fn := Tryz.f26) rfl rfl HB2.out (by omega) KB2.out HR4.out hc4
end D5
namespace D6
open Go.RowKit Go.Proofs.YtalbgklfhabnkaaGreatDoor Ow Pl N2 Dp D1 D2 D3
theorem addZ_calls (A0 A1 : Option Addr) (c0 c1 : Nat) (v : Int) (w : World) (h1 : Rd w A1 (digs (dm v))) (hc1 : (digs (dm v)).length ≤ c1) :
  Calls Tryz.prog 25 #[.agg #[.bool false, .slice A0 0 c0, .int .i64 0], .agg #[.bool (dneg v), .slice A1 (digs (dm v)).length c1, .int .i64 (de v)]] w (Gives w v) := by
 have H1 := Ho.mk h1
 have HC := Ho.mk hc1
 clear h1 hc1
 go_enter Tryz.func25, Tryz.ntmps25
 go_wp2
 exact bodyPost_ret (v := .agg #[.bool (dneg v), .slice A1 (digs (dm v)).length c1, .int .i64 (de v)]) (by simp [results, Tryz.f25, go_sem]) rfl
  ⟨A1, c1, rfl, HC.out, H1.out.bel ((((Bel.refl w).alloc _).alloc _).alloc _), (((Bel.refl w).alloc _).alloc _).alloc _⟩
theorem addZ2_calls (A0 A1 : Option Addr) (c0 c1 : Nat) (v : Int) (w : World) (h1 : Rd w A0 (digs (dm v))) (hc1 : (digs (dm v)).length ≤ c0) (hv : v ≠ 0) :
  Calls Tryz.prog 25 #[.agg #[.bool (dneg v), .slice A0 (digs (dm v)).length c0, .int .i64 (de v)], .agg #[.bool false, .slice A1 0 c1, .int .i64 0]] w (Gives w v) := by
 have H1 := Ho.mk h1
 have HC := Ho.mk hc1
 have hb : (((digs (dm v)).length : Int) == 0) = false := beq_eq_false_iff_ne.mpr (fun c => hv (dm_zero.1 (digs_nil.1 (List.length_eq_zero_iff.1 (Int.ofNat.inj c)))))
 clear h1 hc1 hv
 go_enter Tryz.func25, Tryz.ntmps25
 go_wp2
 exact bodyPost_ret (v := .agg #[.bool (dneg v), .slice A0 (digs (dm v)).length c0, .int .i64 (de v)]) (by simp [results, Tryz.f25, go_sem]) rfl
  ⟨A0, c0, rfl, HC.out, H1.out.bel ((((Bel.refl w).alloc _).alloc _).alloc _), (((Bel.refl w).alloc _).alloc _).alloc _⟩
theorem len_add {x y a b : Nat} (h : (digs x).length ≤ a) (k : (digs y).length ≤ b) : (digs (x + y)).length ≤ a + b + 1 := by
 apply digs_len_le.2
 have h1 := Nat.lt_of_lt_of_le (digs_len_le.1 h) (pow_le_nat (Nat.le_add_right a b))
 have h2 := Nat.lt_of_lt_of_le (digs_len_le.1 k) (pow_le_nat (Nat.le_add_left b a))
 rw [Nat.pow_succ]
 omega
theorem addS_calls (A0 A1 : Option Addr) (c0 c1 x y : Nat) (n : Bool) (e0 e1 : Int) (w : World) (h0 : Rd w A0 (digs x)) (h1 : Rd w A1 (digs y)) (hc0 : (digs x).length ≤ c0) (hc1 : (digs y).length ≤ c1) (hx : x ≠ 0) (hy : y ≠ 0)
    (hl0 : (digs x).length ≤ 1000) (hl1 : (digs y).length ≤ 1000) (he : e0 ≤ e1) (b0 : -20000 ≤ e0) (b1 : e1 ≤ 20000) :
    Calls Tryz.prog 25 #[.agg #[.bool n, .slice A0 (digs x).length c0, .int .i64 e0], .agg #[.bool n, .slice A1 (digs y).length c1, .int .i64 e1]] w (Gives w (sc n x e0 + sc n y e1)) := by
  have hb0 : (((digs x).length : Int) == 0) = false := beq_eq_false_iff_ne.mpr (fun c => hx (digs_nil.1 (List.length_eq_zero_iff.1 (Int.ofNat.inj c))))
  have hb1 : (((digs y).length : Int) == 0) = false := beq_eq_false_iff_ne.mpr (fun c => hy (digs_nil.1 (List.length_eq_zero_iff.1 (Int.ofNat.inj c))))
  have H0 := Ho.mk h0
  have H1 := Ho.mk h1
  clear h0 h1
  have nn := D4.ne2 w.heap.size
  have nn2 : ¬ (w.heap.size + 1 + 1 = w.heap.size) := fun q => D4.ne2 w.heap.size q.symm
  go_enter Tryz.func25, Tryz.ntmps25
  go_wp2_with fail
  obtain ⟨k, hk⟩ := Int.eq_ofNat_of_zero_le (show 0 ≤ e1 - e0 by omega)
  have hk1 : e1 = e0 + k := by omega
  have HV : Ho (sc n (x + y * 2 ^ k) e0 = sc n x e0 + sc n y e1) := ⟨by rw [hk1, sc_add, sc_down _ _ _ _ (by unfold K; omega)]⟩
  have hk5 : k ≤ 40000 := by omega
  have KA := Ho.mk (((Blk.new w [.bool n, .slice A0 (digs x).length c0, .int .i64 e0] 37).old (.cells #[.bool n, .slice A1 (digs y).length c1, .int .i64 e1] 37)).old (.cells #[.bool false, .slice none 0 0, .int .i64 0] 37))
  have KC := Ho.mk ((Blk.new (w.alloc (.cells #[.bool n, .slice A0 (digs x).length c0, .int .i64 e0] 37)) [.bool n, .slice A1 (digs y).length c1, .int .i64 e1] 37).old (.cells #[.bool false, .slice none 0 0, .int .i64 0] 37))
  have KZ := Ho.mk (Blk.new ((w.alloc (.cells #[.bool n, .slice A0 (digs x).length c0, .int .i64 e0] 37)).alloc (.cells #[.bool n, .slice A1 (digs y).length c1, .int .i64 e1] 37)) [.bool false, .slice none 0 0, .int .i64 0] 37)
  have HB := Ho.mk ((((Bel.refl w).alloc (.cells #[.bool n, .slice A0 (digs x).length c0, .int .i64 e0] 37)).alloc (.cells #[.bool n, .slice A1 (digs y).length c1, .int .i64 e1] 37)).alloc (.cells #[.bool false, .slice none 0 0, .int .i64 0] 37))
  rw [World.size_alloc] at KC
  rw [World.size_alloc, World.size_alloc] at KZ
  have hZ : ((w.alloc (.cells #[.bool n, .slice A0 (digs x).length c0, .int .i64 e0] 37)).alloc (.cells #[.bool n, .slice A1 (digs y).length c1, .int .i64 e1] 37)).alloc (.cells #[.bool false, .slice none 0 0, .int .i64 0] 37) = ((w.alloc (.cells #[.bool n, .slice A0 (digs x).length c0, .int .i64 e0] 37)).alloc (.cells #[.bool n, .slice A1 (digs y).length c1, .int .i64 e1] 37)).alloc (.cells #[.bool false, .slice none 0 0, .int .i64 0] 37) := rfl
  generalize ((w.alloc (.cells #[.bool n, .slice A0 (digs x).length c0, .int .i64 e0] 37)).alloc (.cells #[.bool n, .slice A1 (digs y).length c1, .int .i64 e1] 37)).alloc (.cells #[.bool false, .slice none 0 0, .int .i64 0] 37) = w0 at *
  clear hZ
  have S1 := Ho.mk (R7.shl_calls A0 c0 x 0 0 w0 (H0.out.bel HB.out) hc0 (by omega) rfl (by omega))
  rw [Nat.pow_zero, Nat.mul_one] at S1
  (with_reducible refine (S1.out).mono ?_); rintro e w1 ⟨A2, c2, rfl, hc2, hr2, hb2⟩
  have KA1 := Ho.mk (KA.out.bel hb2)
  have KC1 := Ho.mk (KC.out.bel hb2)
  have KZ1 := Ho.mk (KZ.out.bel hb2)
  have HB1 := Ho.mk (HB.out.trans hb2)
  have HR2 := Ho.mk hr2
  have x1 := KC1.out.cell (i := 1) rfl
  have x2 := KC1.out.cell (i := 2) rfl
  clear hb2 hr2 KA KC KZ HB S1
  have hl2 : (digs (y * 2 ^ k)).length ≤ 2700 := by
    have := D4.len_mul (x := y) (y := 2 ^ k) hl1 (len_p2 k)
    omega
  have hl3 : (digs (x + y * 2 ^ k)).length ≤ 3800 := by
    have := len_add hl0 hl2
    omega
  have S2 := Ho.mk (R7.shl_calls A1 c1 y k (k : Int) w1 (H1.out.bel HB1.out) hc1 (by omega) (Int.toNat_natCast k).symm (by omega))
  have S3 := Ho.mk (fun (A : Option Addr) (c : Nat) (W : World) (g0 : Rd W A2 (digs x)) (g1 : Rd W A (digs (y * 2 ^ k))) => R4.add_calls A2 A c2 c x (y * 2 ^ k) W g0 g1 (by omega) (by omega))
  have S4 := Ho.mk (fun (A : Option Addr) (c : Nat) (W : World) (g : Rd W A (digs (x + y * 2 ^ k))) (hc : (digs (x + y * 2 ^ k)).length ≤ c) => make_calls A c (x + y * 2 ^ k) n e0 W g hc (by omega) (by omega) (by omega))
  rw [HV.out] at S4
  have hkk : e1 - e0 = (k : Int) := hk
  generalize sc n x e0 + sc n y e1 = r at *
  clear hk hk1 hl2 hl3 HV
  generalize x + y * 2 ^ k = xy at *
  generalize y * 2 ^ k = yk at *
  go_wp2_with fail
  (with_reducible refine (S2.out).mono ?_); rintro e w2 ⟨A3, c3, rfl, hc3, hr3, hb3⟩
  have KA2 := Ho.mk (KA1.out.bel hb3)
  have KC2 := Ho.mk (KC1.out.bel hb3)
  have KZ2 := Ho.mk (KZ1.out.bel hb3)
  have HB2 := Ho.mk (HB1.out.trans hb3)
  have HR3 := Ho.mk hr3
  have HR22 := Ho.mk (HR2.out.bel hb3)
  have u0 := KA2.out.cell (i := 0) rfl
  have u1 := KC2.out.cell (i := 0) rfl
  have hnn : (n == n) = true := by simp
  clear hb3 hr3 KA1 KC1 KZ1 HB1 S2 x1 x2 HR2
  go_wp2_with fail
  clear u1
  go_region_held3 (fun w' => w'.cell? ⟨w.heap.size, 0, none⟩ = some (.bool n))
    (first
      | go_keep
      | (apply Bel.cell (by assumption); assumption))
    (first
      | (go_at_call 52; refine (S3.out _ _ _ (HR22.out.bel (Bel.refl _).drew) (HR3.out.bel (Bel.refl _).drew)).mono ?_; rintro e w3 ⟨A4, c4, rfl, hc4, hr4, hb4⟩)
      | (go_at_call 51; refine (S4.out _ _ _ hr4 hc4).mono ?_; rintro e w4 ⟨A5, c5, rfl, hc5, hr5, hb5⟩
         have KB2 := Ho.mk (KZ2.out.bel ((Bel.refl _).drew.trans (hb4.trans hb5)))
         have HB5 := Ho.mk (HB2.out.trans ((Bel.refl _).drew.trans (hb4.trans hb5)))
         obtain ⟨y0, y1, y2⟩ := KB2.out.c3
         have z0 := KB2.out.free 0
         have z1 := KB2.out.free 1
         have z2 := KB2.out.free 2))
  have HR5 := Ho.mk hr5
  clear hr5 hr4 hb4 hb5
  go_wp2
  exact gives_end (fn := Tryz.f25) rfl rfl HB5.out (by omega) KB2.out HR5.out hc5
theorem addS2_calls (A0 A1 : Option Addr) (c0 c1 x y : Nat) (n : Bool) (e0 e1 : Int) (w : World) (h0 : Rd w A0 (digs x)) (h1 : Rd w A1 (digs y)) (hc0 : (digs x).length ≤ c0) (hc1 : (digs y).length ≤ c1) (hx : x ≠ 0) (hy : y ≠ 0)
    (hl0 : (digs x).length ≤ 1000) (hl1 : (digs y).length ≤ 1000) (he : e1 < e0) (b0 : -20000 ≤ e1) (b1 : e0 ≤ 20000) :
    Calls Tryz.prog 25 #[.agg #[.bool n, .slice A0 (digs x).length c0, .int .i64 e0], .agg #[.bool n, .slice A1 (digs y).length c1, .int .i64 e1]] w (Gives w (sc n x e0 + sc n y e1)) := by
  have hb0 : (((digs x).length : Int) == 0) = false := beq_eq_false_iff_ne.mpr (fun c => hx (digs_nil.1 (List.length_eq_zero_iff.1 (Int.ofNat.inj c))))
  have hb1 : (((digs y).length : Int) == 0) = false := beq_eq_false_iff_ne.mpr (fun c => hy (digs_nil.1 (List.length_eq_zero_iff.1 (Int.ofNat.inj c))))
  have H0 := Ho.mk h0
  have H1 := Ho.mk h1
  clear h0 h1
  have nn := D4.ne2 w.heap.size
  have nn2 : ¬ (w.heap.size + 1 + 1 = w.heap.size) := fun q => D4.ne2 w.heap.size q.symm
  go_enter Tryz.func25, Tryz.ntmps25
  go_wp2_with fail
  obtain ⟨k, hk⟩ := Int.eq_ofNat_of_zero_le (show 0 ≤ e0 - e1 by omega)
  have hk1 : e0 = e1 + k := by omega
  have HV : Ho (sc n (x * 2 ^ k + y) e1 = sc n x e0 + sc n y e1) := ⟨by rw [hk1, sc_add, sc_down _ _ _ _ (by unfold K; omega)]⟩
  have hk5 : k ≤ 40000 := by omega
  have KA := Ho.mk (((Blk.new w [.bool n, .slice A0 (digs x).length c0, .int .i64 e0] 37).old (.cells #[.bool n, .slice A1 (digs y).length c1, .int .i64 e1] 37)).old (.cells #[.bool false, .slice none 0 0, .int .i64 0] 37))
  have KC := Ho.mk ((Blk.new (w.alloc (.cells #[.bool n, .slice A0 (digs x).length c0, .int .i64 e0] 37)) [.bool n, .slice A1 (digs y).length c1, .int .i64 e1] 37).old (.cells #[.bool false, .slice none 0 0, .int .i64 0] 37))
  have KZ := Ho.mk (Blk.new ((w.alloc (.cells #[.bool n, .slice A0 (digs x).length c0, .int .i64 e0] 37)).alloc (.cells #[.bool n, .slice A1 (digs y).length c1, .int .i64 e1] 37)) [.bool false, .slice none 0 0, .int .i64 0] 37)
  have HB := Ho.mk ((((Bel.refl w).alloc (.cells #[.bool n, .slice A0 (digs x).length c0, .int .i64 e0] 37)).alloc (.cells #[.bool n, .slice A1 (digs y).length c1, .int .i64 e1] 37)).alloc (.cells #[.bool false, .slice none 0 0, .int .i64 0] 37))
  rw [World.size_alloc] at KC
  rw [World.size_alloc, World.size_alloc] at KZ
  have hZ : ((w.alloc (.cells #[.bool n, .slice A0 (digs x).length c0, .int .i64 e0] 37)).alloc (.cells #[.bool n, .slice A1 (digs y).length c1, .int .i64 e1] 37)).alloc (.cells #[.bool false, .slice none 0 0, .int .i64 0] 37) = ((w.alloc (.cells #[.bool n, .slice A0 (digs x).length c0, .int .i64 e0] 37)).alloc (.cells #[.bool n, .slice A1 (digs y).length c1, .int .i64 e1] 37)).alloc (.cells #[.bool false, .slice none 0 0, .int .i64 0] 37) := rfl
  generalize ((w.alloc (.cells #[.bool n, .slice A0 (digs x).length c0, .int .i64 e0] 37)).alloc (.cells #[.bool n, .slice A1 (digs y).length c1, .int .i64 e1] 37)).alloc (.cells #[.bool false, .slice none 0 0, .int .i64 0] 37) = w0 at *
  clear hZ
  have S1 := Ho.mk (R7.shl_calls A0 c0 x k (k : Int) w0 (H0.out.bel HB.out) hc0 (by omega) (Int.toNat_natCast k).symm (by omega))
  have hkk : e0 - e1 = (k : Int) := hk
  rw [hkk]
  clear hk
  (with_reducible refine (S1.out).mono ?_); rintro e w1 ⟨A2, c2, rfl, hc2, hr2, hb2⟩
  have KA1 := Ho.mk (KA.out.bel hb2)
  have KC1 := Ho.mk (KC.out.bel hb2)
  have KZ1 := Ho.mk (KZ.out.bel hb2)
  have HB1 := Ho.mk (HB.out.trans hb2)
  have HR2 := Ho.mk hr2
  have x1 := KC1.out.cell (i := 1) rfl
  have x2 := KC1.out.cell (i := 2) rfl
  clear hb2 hr2 KA KC KZ HB S1
  have hl2 : (digs (x * 2 ^ k)).length ≤ 2700 := by
    have := D4.len_mul (x := x) (y := 2 ^ k) hl0 (len_p2 k)
    omega
  have hl3 : (digs (x * 2 ^ k + y)).length ≤ 3800 := by
    have := len_add hl2 hl1
    omega
  have S2 := Ho.mk (R7.shl_calls A1 c1 y 0 0 w1 (H1.out.bel HB1.out) hc1 (by omega) rfl (by omega))
  rw [Nat.pow_zero, Nat.mul_one] at S2
  have S3 := Ho.mk (fun (A : Option Addr) (c : Nat) (W : World) (g0 : Rd W A2 (digs (x * 2 ^ k))) (g1 : Rd W A (digs y)) => R4.add_calls A2 A c2 c (x * 2 ^ k) y W g0 g1 (by omega) (by omega))
  have S4 := Ho.mk (fun (A : Option Addr) (c : Nat) (W : World) (g : Rd W A (digs (x * 2 ^ k + y))) (hc : (digs (x * 2 ^ k + y)).length ≤ c) => make_calls A c (x * 2 ^ k + y) n e1 W g hc (by omega) (by omega) (by omega))
  rw [HV.out] at S4
  generalize sc n x e0 + sc n y e1 = r at *
  clear hk1 hl2 hl3 HV
  generalize x * 2 ^ k + y = xy at *
  generalize x * 2 ^ k = yk at *
  go_wp2_with fail
  (with_reducible refine (S2.out).mono ?_); rintro e w2 ⟨A3, c3, rfl, hc3, hr3, hb3⟩
  have KA2 := Ho.mk (KA1.out.bel hb3)
  have KC2 := Ho.mk (KC1.out.bel hb3)
  have KZ2 := Ho.mk (KZ1.out.bel hb3)
  have HB2 := Ho.mk (HB1.out.trans hb3)
  have HR3 := Ho.mk hr3
  have HR22 := Ho.mk (HR2.out.bel hb3)
  have u0 := KA2.out.cell (i := 0) rfl
  have u1 := KC2.out.cell (i := 0) rfl
  have hnn : (n == n) = true := by simp
  clear hb3 hr3 KA1 KC1 KZ1 HB1 S2 x1 x2 HR2
  go_wp2_with fail
  clear u1
  go_region_held3 (fun w' => w'.cell? ⟨w.heap.size, 0, none⟩ = some (.bool n))
    (first
      | go_keep
      | (apply Bel.cell (by assumption); assumption))
    (first
      | (go_at_call 52; refine (S3.out _ _ _ (HR22.out.bel (Bel.refl _).drew) (HR3.out.bel (Bel.refl _).drew)).mono ?_; rintro e w3 ⟨A4, c4, rfl, hc4, hr4, hb4⟩)
      | (go_at_call 51; refine (S4.out _ _ _ hr4 hc4).mono ?_; rintro e w4 ⟨A5, c5, rfl, hc5, hr5, hb5⟩
         have KB2 := Ho.mk (KZ2.out.bel ((Bel.refl _).drew.trans (hb4.trans hb5)))
         have HB5 := Ho.mk (HB2.out.trans ((Bel.refl _).drew.trans (hb4.trans hb5)))
         obtain ⟨y0, y1, y2⟩ := KB2.out.c3
         have z0 := KB2.out.free 0
         have z1 := KB2.out.free 1
         have z2 := KB2.out.free 2))
  have HR5 := Ho.mk hr5
  clear hr5 hr4 hb4 hb5
  go_wp2
  exact gives_end (fn := Tryz.f25) rfl rfl HB5.out (by omega) KB2.out HR5.out hc5
theorem addU_calls (A0 A1 : Option Addr) (c0 c1 x y : Nat) (n : Bool) (e0 e1 : Int) (w : World) (h0 : Rd w A0 (digs x)) (h1 : Rd w A1 (digs y)) (hc0 : (digs x).length ≤ c0) (hc1 : (digs y).length ≤ c1) (hx : x ≠ 0) (hy : y ≠ 0)
  (hl0 : (digs x).length ≤ 1000) (hl1 : (digs y).length ≤ 1000) (he : e0 ≤ e1) (b0 : -20000 ≤ e0) (b1 : e1 ≤ 20000) (hge : ∀ k : Nat, e1 = e0 + k → y * 2 ^ k ≤ x) :
  Calls Tryz.prog 25 #[.agg #[.bool n, .slice A0 (digs x).length c0, .int .i64 e0], .agg #[.bool (!n), .slice A1 (digs y).length c1, .int .i64 e1]] w (Gives w (sc n x e0 + sc (!n) y e1)) := by
 have hb0 : (((digs x).length : Int) == 0) = false := beq_eq_false_iff_ne.mpr (fun c => hx (digs_nil.1 (List.length_eq_zero_iff.1 (Int.ofNat.inj c))))
 have hb1 : (((digs y).length : Int) == 0) = false := beq_eq_false_iff_ne.mpr (fun c => hy (digs_nil.1 (List.length_eq_zero_iff.1 (Int.ofNat.inj c))))
 have H0 := Ho.mk h0
 have H1 := Ho.mk h1
 clear h0 h1
 have nn := D4.ne2 w.heap.size
 have nn2 : ¬ (w.heap.size + 1 + 1 = w.heap.size) := fun q => D4.ne2 w.heap.size q.symm
 go_enter Tryz.func25, Tryz.ntmps25
 go_wp2_with fail
 obtain ⟨k, hk⟩ := Int.eq_ofNat_of_zero_le (show 0 ≤ e1 - e0 by omega)
 have hk1 : e1 = e0 + k := by omega
 have HV : Ho (sc n (x - y * 2 ^ k) e0 = sc n x e0 + sc (!n) y e1) := ⟨by rw [sc_sub _ _ _ _ (hge k hk1), hk1, sc_down _ _ _ _ (by unfold K; omega)]⟩
 have HGE := Ho.mk (hge k hk1)
 clear hge
 have hk5 : k ≤ 40000 := by omega
 have KA := Ho.mk (((Blk.new w [.bool n, .slice A0 (digs x).length c0, .int .i64 e0] 37).old (.cells #[.bool (!n), .slice A1 (digs y).length c1, .int .i64 e1] 37)).old (.cells #[.bool false, .slice none 0 0, .int .i64 0] 37))
 have KC := Ho.mk ((Blk.new (w.alloc (.cells #[.bool n, .slice A0 (digs x).length c0, .int .i64 e0] 37)) [.bool (!n), .slice A1 (digs y).length c1, .int .i64 e1] 37).old (.cells #[.bool false, .slice none 0 0, .int .i64 0] 37))
 have KZ := Ho.mk (Blk.new ((w.alloc (.cells #[.bool n, .slice A0 (digs x).length c0, .int .i64 e0] 37)).alloc (.cells #[.bool (!n), .slice A1 (digs y).length c1, .int .i64 e1] 37)) [.bool false, .slice none 0 0, .int .i64 0] 37)
 have HB := Ho.mk ((((Bel.refl w).alloc (.cells #[.bool n, .slice A0 (digs x).length c0, .int .i64 e0] 37)).alloc (.cells #[.bool (!n), .slice A1 (digs y).length c1, .int .i64 e1] 37)).alloc (.cells #[.bool false, .slice none 0 0, .int .i64 0] 37))
 rw [World.size_alloc] at KC
 rw [World.size_alloc, World.size_alloc] at KZ
 have hZ : ((w.alloc (.cells #[.bool n, .slice A0 (digs x).length c0, .int .i64 e0] 37)).alloc (.cells #[.bool (!n), .slice A1 (digs y).length c1, .int .i64 e1] 37)).alloc (.cells #[.bool false, .slice none 0 0, .int .i64 0] 37) = ((w.alloc (.cells #[.bool n, .slice A0 (digs x).length c0, .int .i64 e0] 37)).alloc (.cells #[.bool (!n), .slice A1 (digs y).length c1, .int .i64 e1] 37)).alloc (.cells #[.bool false, .slice none 0 0, .int .i64 0] 37) := rfl
 generalize ((w.alloc (.cells #[.bool n, .slice A0 (digs x).length c0, .int .i64 e0] 37)).alloc (.cells #[.bool (!n), .slice A1 (digs y).length c1, .int .i64 e1] 37)).alloc (.cells #[.bool false, .slice none 0 0, .int .i64 0] 37) = w0 at *
 clear hZ
 have S1 := Ho.mk (R7.shl_calls A0 c0 x 0 0 w0 (H0.out.bel HB.out) hc0 (by omega) rfl (by omega))
 rw [Nat.pow_zero, Nat.mul_one] at S1
 (with_reducible refine (S1.out).mono ?_); rintro e w1 ⟨A2, c2, rfl, hc2, hr2, hb2⟩
 have KA1 := Ho.mk (KA.out.bel hb2)
 have KC1 := Ho.mk (KC.out.bel hb2)
 have KZ1 := Ho.mk (KZ.out.bel hb2)
 have HB1 := Ho.mk (HB.out.trans hb2)
 have HR2 := Ho.mk hr2
 have x1 := KC1.out.cell (i := 1) rfl
 have x2 := KC1.out.cell (i := 2) rfl
 clear hb2 hr2 KA KC KZ HB S1
 have hl2 : (digs (y * 2 ^ k)).length ≤ 2700 := by
  have := D4.len_mul (x := y) (y := 2 ^ k) hl1 (len_p2 k)
  omega
 have hl3 : (digs (x - y * 2 ^ k)).length ≤ 3800 := Nat.le_trans (digs_len_mono (Nat.sub_le _ _)) (by omega)
 have hcm : decide (cmpI (x : Int) ((y * 2 ^ k : Nat) : Int) ≥ 0) = true := by
  rcases Nat.lt_or_eq_of_le HGE.out with h | h
  ·rw [cmpI_gt (by omega)]; rfl
  ·rw [cmpI_eq (by omega)]; rfl
 have S2 := Ho.mk (R7.shl_calls A1 c1 y k (k : Int) w1 (H1.out.bel HB1.out) hc1 (by omega) (Int.toNat_natCast k).symm (by omega))
 have S3 := Ho.mk (fun (A : Option Addr) (c : Nat) (W : World) (g0 : Rd W A2 (digs x)) (g1 : Rd W A (digs (y * 2 ^ k))) => R5.sub_calls A2 A c2 c x (y * 2 ^ k) W g0 g1 (by omega) HGE.out)
 have S5 := Ho.mk (fun (A : Option Addr) (c : Nat) (W : World) (g0 : Rd W A2 (digs x)) (g1 : Rd W A (digs (y * 2 ^ k))) => R3.cmp_calls A2 A c2 c x (y * 2 ^ k) W g0 g1)
 have S4 := Ho.mk (fun (A : Option Addr) (c : Nat) (W : World) (g : Rd W A (digs (x - y * 2 ^ k))) (hc : (digs (x - y * 2 ^ k)).length ≤ c) => make_calls A c (x - y * 2 ^ k) n e0 W g hc (by omega) (by omega) (by omega))
 rw [HV.out] at S4
 have hkk : e1 - e0 = (k : Int) := hk
 generalize sc n x e0 + sc (!n) y e1 = r at *
 clear hk hk1 hl2 hl3 HV HGE
 generalize cmpI (x : Int) ((y * 2 ^ k : Nat) : Int) = q at *
 generalize x - y * 2 ^ k = xy at *
 generalize y * 2 ^ k = yk at *
 go_wp2_with fail
 (with_reducible refine (S2.out).mono ?_); rintro e w2 ⟨A3, c3, rfl, hc3, hr3, hb3⟩
 have KA2 := Ho.mk (KA1.out.bel hb3)
 have KC2 := Ho.mk (KC1.out.bel hb3)
 have KZ2 := Ho.mk (KZ1.out.bel hb3)
 have HB2 := Ho.mk (HB1.out.trans hb3)
 have HR3 := Ho.mk hr3
 have HR22 := Ho.mk (HR2.out.bel hb3)
 have u0 := KA2.out.cell (i := 0) rfl
 have u1 := KC2.out.cell (i := 0) rfl
 have hnn : (n == !n) = false := by cases n <;> rfl
 clear hb3 hr3 KA1 KC1 KZ1 HB1 S2 x1 x2 HR2
 go_wp2_with fail
 (with_reducible refine (S5.out _ _ _ HR22.out HR3.out).mono ?_); rintro e w3 ⟨rfl, hd⟩
 have hbd : Bel w2 w3 := by obtain ⟨m, rfl⟩ := hd; exact (Bel.refl w2).drewN m
 have HR4 := Ho.mk (HR22.out.bel hbd)
 have HR5 := Ho.mk (HR3.out.bel hbd)
 have KA3 := Ho.mk (KA2.out.bel hbd)
 have KZ3 := Ho.mk (KZ2.out.bel hbd)
 have HB3 := Ho.mk (HB2.out.trans hbd)
 clear hd hbd u0 u1
 go_wp2_with fail
 (with_reducible refine (S3.out _ _ _ HR4.out HR5.out).mono ?_); rintro e w4 ⟨A6, c6, rfl, hc6, hr6, hb6⟩
 have u0 := (KA3.out.bel hb6).cell (i := 0) rfl
 have KZ4 := Ho.mk (KZ3.out.bel hb6)
 have HB4 := Ho.mk (HB3.out.trans hb6)
 clear hb6
 go_wp2_with fail
 (with_reducible refine (S4.out _ _ _ hr6 hc6).mono ?_); rintro e w5 ⟨A7, c7, rfl, hc7, hr7, hb7⟩
 have KB2 := Ho.mk (KZ4.out.bel hb7)
 have HB5 := Ho.mk (HB4.out.trans hb7)
 obtain ⟨y0, y1, y2⟩ := KB2.out.c3
 have z0 := KB2.out.free 0
 have z1 := KB2.out.free 1
 have z2 := KB2.out.free 2
 have HR7 := Ho.mk hr7
 clear hr7 hr6 hb7 u0
 go_wp2
 exact gives_end (fn := Tryz.f25) rfl rfl HB5.out (by omega) KB2.out HR7.out hc7
theorem addV_calls (A0 A1 : Option Addr) (c0 c1 x y : Nat) (n : Bool) (e0 e1 : Int) (w : World) (h0 : Rd w A0 (digs x)) (h1 : Rd w A1 (digs y)) (hc0 : (digs x).length ≤ c0) (hc1 : (digs y).length ≤ c1) (hx : x ≠ 0) (hy : y ≠ 0)
  (hl0 : (digs x).length ≤ 1000) (hl1 : (digs y).length ≤ 1000) (he : e0 ≤ e1) (b0 : -20000 ≤ e0) (b1 : e1 ≤ 20000) (hge : ∀ k : Nat, e1 = e0 + k → x < y * 2 ^ k) :
  Calls Tryz.prog 25 #[.agg #[.bool n, .slice A0 (digs x).length c0, .int .i64 e0], .agg #[.bool (!n), .slice A1 (digs y).length c1, .int .i64 e1]] w (Gives w (sc n x e0 + sc (!n) y e1)) := by
 have hb0 : (((digs x).length : Int) == 0) = false := beq_eq_false_iff_ne.mpr (fun c => hx (digs_nil.1 (List.length_eq_zero_iff.1 (Int.ofNat.inj c))))
 have hb1 : (((digs y).length : Int) == 0) = false := beq_eq_false_iff_ne.mpr (fun c => hy (digs_nil.1 (List.length_eq_zero_iff.1 (Int.ofNat.inj c))))
 have H0 := Ho.mk h0
 have H1 := Ho.mk h1
 clear h0 h1
 have nn := D4.ne2 w.heap.size
 have nn2 : ¬ (w.heap.size + 1 + 1 = w.heap.size) := fun q => D4.ne2 w.heap.size q.symm
 go_enter Tryz.func25, Tryz.ntmps25
 go_wp2_with fail
 obtain ⟨k, hk⟩ := Int.eq_ofNat_of_zero_le (show 0 ≤ e1 - e0 by omega)
 have hk1 : e1 = e0 + k := by omega
 have HV : Ho (sc (!n) (y * 2 ^ k - x) e0 = sc n x e0 + sc (!n) y e1) := ⟨by rw [sc_sub _ _ _ _ (Nat.le_of_lt (hge k hk1)), hk1, sc_down _ _ _ _ (by unfold K; omega), Bool.not_not, Int.add_comm]⟩
 have HGE := Ho.mk (hge k hk1)
 clear hge
 have hk5 : k ≤ 40000 := by omega
 have KA := Ho.mk (((Blk.new w [.bool n, .slice A0 (digs x).length c0, .int .i64 e0] 37).old (.cells #[.bool (!n), .slice A1 (digs y).length c1, .int .i64 e1] 37)).old (.cells #[.bool false, .slice none 0 0, .int .i64 0] 37))
 have KC := Ho.mk ((Blk.new (w.alloc (.cells #[.bool n, .slice A0 (digs x).length c0, .int .i64 e0] 37)) [.bool (!n), .slice A1 (digs y).length c1, .int .i64 e1] 37).old (.cells #[.bool false, .slice none 0 0, .int .i64 0] 37))
 have KZ := Ho.mk (Blk.new ((w.alloc (.cells #[.bool n, .slice A0 (digs x).length c0, .int .i64 e0] 37)).alloc (.cells #[.bool (!n), .slice A1 (digs y).length c1, .int .i64 e1] 37)) [.bool false, .slice none 0 0, .int .i64 0] 37)
 have HB := Ho.mk ((((Bel.refl w).alloc (.cells #[.bool n, .slice A0 (digs x).length c0, .int .i64 e0] 37)).alloc (.cells #[.bool (!n), .slice A1 (digs y).length c1, .int .i64 e1] 37)).alloc (.cells #[.bool false, .slice none 0 0, .int .i64 0] 37))
 rw [World.size_alloc] at KC
 rw [World.size_alloc, World.size_alloc] at KZ
 have hZ : ((w.alloc (.cells #[.bool n, .slice A0 (digs x).length c0, .int .i64 e0] 37)).alloc (.cells #[.bool (!n), .slice A1 (digs y).length c1, .int .i64 e1] 37)).alloc (.cells #[.bool false, .slice none 0 0, .int .i64 0] 37) = ((w.alloc (.cells #[.bool n, .slice A0 (digs x).length c0, .int .i64 e0] 37)).alloc (.cells #[.bool (!n), .slice A1 (digs y).length c1, .int .i64 e1] 37)).alloc (.cells #[.bool false, .slice none 0 0, .int .i64 0] 37) := rfl
 generalize ((w.alloc (.cells #[.bool n, .slice A0 (digs x).length c0, .int .i64 e0] 37)).alloc (.cells #[.bool (!n), .slice A1 (digs y).length c1, .int .i64 e1] 37)).alloc (.cells #[.bool false, .slice none 0 0, .int .i64 0] 37) = w0 at *
 clear hZ
 have S1 := Ho.mk (R7.shl_calls A0 c0 x 0 0 w0 (H0.out.bel HB.out) hc0 (by omega) rfl (by omega))
 rw [Nat.pow_zero, Nat.mul_one] at S1
 (with_reducible refine (S1.out).mono ?_); rintro e w1 ⟨A2, c2, rfl, hc2, hr2, hb2⟩
 have KA1 := Ho.mk (KA.out.bel hb2)
 have KC1 := Ho.mk (KC.out.bel hb2)
 have KZ1 := Ho.mk (KZ.out.bel hb2)
 have HB1 := Ho.mk (HB.out.trans hb2)
 have HR2 := Ho.mk hr2
 have x1 := KC1.out.cell (i := 1) rfl
 have x2 := KC1.out.cell (i := 2) rfl
 clear hb2 hr2 KA KC KZ HB S1
 have hl2 : (digs (y * 2 ^ k)).length ≤ 2700 := by
  have := D4.len_mul (x := y) (y := 2 ^ k) hl1 (len_p2 k)
  omega
 have hl3 : (digs (y * 2 ^ k - x)).length ≤ 3800 := Nat.le_trans (digs_len_mono (Nat.sub_le _ _)) (by omega)
 have hcm : decide (cmpI (x : Int) ((y * 2 ^ k : Nat) : Int) ≥ 0) = false := by
  have h := HGE.out
  rw [cmpI_lt (by omega)]; rfl
 have S2 := Ho.mk (R7.shl_calls A1 c1 y k (k : Int) w1 (H1.out.bel HB1.out) hc1 (by omega) (Int.toNat_natCast k).symm (by omega))
 have S3 := Ho.mk (fun (A : Option Addr) (c : Nat) (W : World) (g0 : Rd W A2 (digs x)) (g1 : Rd W A (digs (y * 2 ^ k))) => R5.sub_calls A A2 c c2 (y * 2 ^ k) x W g1 g0 (by omega) (Nat.le_of_lt HGE.out))
 have S5 := Ho.mk (fun (A : Option Addr) (c : Nat) (W : World) (g0 : Rd W A2 (digs x)) (g1 : Rd W A (digs (y * 2 ^ k))) => R3.cmp_calls A2 A c2 c x (y * 2 ^ k) W g0 g1)
 have S4 := Ho.mk (fun (A : Option Addr) (c : Nat) (W : World) (g : Rd W A (digs (y * 2 ^ k - x))) (hc : (digs (y * 2 ^ k - x)).length ≤ c) => make_calls A c (y * 2 ^ k - x) (!n) e0 W g hc (by omega) (by omega) (by omega))
 rw [HV.out] at S4
 have hkk : e1 - e0 = (k : Int) := hk
 generalize sc n x e0 + sc (!n) y e1 = r at *
 clear hk hk1 hl2 hl3 HV HGE
 generalize cmpI (x : Int) ((y * 2 ^ k : Nat) : Int) = q at *
 generalize y * 2 ^ k - x = xy at *
 generalize y * 2 ^ k = yk at *
 go_wp2_with fail
 (with_reducible refine (S2.out).mono ?_); rintro e w2 ⟨A3, c3, rfl, hc3, hr3, hb3⟩
 have KA2 := Ho.mk (KA1.out.bel hb3)
 have KC2 := Ho.mk (KC1.out.bel hb3)
 have KZ2 := Ho.mk (KZ1.out.bel hb3)
 have HB2 := Ho.mk (HB1.out.trans hb3)
 have HR3 := Ho.mk hr3
 have HR22 := Ho.mk (HR2.out.bel hb3)
 have u0 := KA2.out.cell (i := 0) rfl
 have u1 := KC2.out.cell (i := 0) rfl
 have hnn : (n == !n) = false := by cases n <;> rfl
 clear hb3 hr3 KA1 KC1 KZ1 HB1 S2 x1 x2 HR2
 go_wp2_with fail
 (with_reducible refine (S5.out _ _ _ HR22.out HR3.out).mono ?_); rintro e w3 ⟨rfl, hd⟩
 have hbd : Bel w2 w3 := by obtain ⟨m, rfl⟩ := hd; exact (Bel.refl w2).drewN m
 have HR4 := Ho.mk (HR22.out.bel hbd)
 have HR5 := Ho.mk (HR3.out.bel hbd)
 have KA3 := Ho.mk (KC2.out.bel hbd)
 have KZ3 := Ho.mk (KZ2.out.bel hbd)
 have HB3 := Ho.mk (HB2.out.trans hbd)
 clear hd hbd u0 u1
 go_wp2_with fail
 (with_reducible refine (S3.out _ _ _ HR4.out HR5.out).mono ?_); rintro e w4 ⟨A6, c6, rfl, hc6, hr6, hb6⟩
 have u0 := (KA3.out.bel hb6).cell (i := 0) rfl
 have KZ4 := Ho.mk (KZ3.out.bel hb6)
 have HB4 := Ho.mk (HB3.out.trans hb6)
 clear hb6
 go_wp2_with fail
 (with_reducible refine (S4.out _ _ _ hr6 hc6).mono ?_); rintro e w5 ⟨A7, c7, rfl, hc7, hr7, hb7⟩
 have KB2 := Ho.mk (KZ4.out.bel hb7)
 have HB5 := Ho.mk (HB4.out.trans hb7)
 obtain ⟨y0, y1, y2⟩ := KB2.out.c3
 have z0 := KB2.out.free 0
 have z1 := KB2.out.free 1
 have z2 := KB2.out.free 2
 have HR7 := Ho.mk hr7
 clear hr7 hr6 hb7 u0
 go_wp2
 exact gives_end (fn := Tryz.f25) rfl rfl HB5.out (by omega) KB2.out HR7.out hc7
theorem addU2_calls (A0 A1 : Option Addr) (c0 c1 x y : Nat) (n : Bool) (e0 e1 : Int) (w : World) (h0 : Rd w A0 (digs x)) (h1 : Rd w A1 (digs y)) (hc0 : (digs x).length ≤ c0) (hc1 : (digs y).length ≤ c1) (hx : x ≠ 0) (hy : y ≠ 0)
  (hl0 : (digs x).length ≤ 1000) (hl1 : (digs y).length ≤ 1000) (he : e1 < e0) (b0 : -20000 ≤ e1) (b1 : e0 ≤ 20000) (hge : ∀ k : Nat, e0 = e1 + k → y ≤ x * 2 ^ k) :
  Calls Tryz.prog 25 #[.agg #[.bool n, .slice A0 (digs x).length c0, .int .i64 e0], .agg #[.bool (!n), .slice A1 (digs y).length c1, .int .i64 e1]] w (Gives w (sc n x e0 + sc (!n) y e1)) := by
 have hb0 : (((digs x).length : Int) == 0) = false := beq_eq_false_iff_ne.mpr (fun c => hx (digs_nil.1 (List.length_eq_zero_iff.1 (Int.ofNat.inj c))))
 have hb1 : (((digs y).length : Int) == 0) = false := beq_eq_false_iff_ne.mpr (fun c => hy (digs_nil.1 (List.length_eq_zero_iff.1 (Int.ofNat.inj c))))
 have H0 := Ho.mk h0
 have H1 := Ho.mk h1
 clear h0 h1
 have nn := D4.ne2 w.heap.size
 have nn2 : ¬ (w.heap.size + 1 + 1 = w.heap.size) := fun q => D4.ne2 w.heap.size q.symm
 go_enter Tryz.func25, Tryz.ntmps25
 go_wp2_with fail
 obtain ⟨k, hk⟩ := Int.eq_ofNat_of_zero_le (show 0 ≤ e0 - e1 by omega)
 have hk1 : e0 = e1 + k := by omega
 have HV : Ho (sc n (x * 2 ^ k - y) e1 = sc n x e0 + sc (!n) y e1) := ⟨by rw [sc_sub _ _ _ _ (hge k hk1), hk1, sc_down _ _ _ _ (by unfold K; omega)]⟩
 have HGE := Ho.mk (hge k hk1)
 clear hge
 have hk5 : k ≤ 40000 := by omega
 have KA := Ho.mk (((Blk.new w [.bool n, .slice A0 (digs x).length c0, .int .i64 e0] 37).old (.cells #[.bool (!n), .slice A1 (digs y).length c1, .int .i64 e1] 37)).old (.cells #[.bool false, .slice none 0 0, .int .i64 0] 37))
 have KC := Ho.mk ((Blk.new (w.alloc (.cells #[.bool n, .slice A0 (digs x).length c0, .int .i64 e0] 37)) [.bool (!n), .slice A1 (digs y).length c1, .int .i64 e1] 37).old (.cells #[.bool false, .slice none 0 0, .int .i64 0] 37))
 have KZ := Ho.mk (Blk.new ((w.alloc (.cells #[.bool n, .slice A0 (digs x).length c0, .int .i64 e0] 37)).alloc (.cells #[.bool (!n), .slice A1 (digs y).length c1, .int .i64 e1] 37)) [.bool false, .slice none 0 0, .int .i64 0] 37)
 have HB := Ho.mk ((((Bel.refl w).alloc (.cells #[.bool n, .slice A0 (digs x).length c0, .int .i64 e0] 37)).alloc (.cells #[.bool (!n), .slice A1 (digs y).length c1, .int .i64 e1] 37)).alloc (.cells #[.bool false, .slice none 0 0, .int .i64 0] 37))
 rw [World.size_alloc] at KC
 rw [World.size_alloc, World.size_alloc] at KZ
 have hZ : ((w.alloc (.cells #[.bool n, .slice A0 (digs x).length c0, .int .i64 e0] 37)).alloc (.cells #[.bool (!n), .slice A1 (digs y).length c1, .int .i64 e1] 37)).alloc (.cells #[.bool false, .slice none 0 0, .int .i64 0] 37) = ((w.alloc (.cells #[.bool n, .slice A0 (digs x).length c0, .int .i64 e0] 37)).alloc (.cells #[.bool (!n), .slice A1 (digs y).length c1, .int .i64 e1] 37)).alloc (.cells #[.bool false, .slice none 0 0, .int .i64 0] 37) := rfl
 generalize ((w.alloc (.cells #[.bool n, .slice A0 (digs x).length c0, .int .i64 e0] 37)).alloc (.cells #[.bool (!n), .slice A1 (digs y).length c1, .int .i64 e1] 37)).alloc (.cells #[.bool false, .slice none 0 0, .int .i64 0] 37) = w0 at *
 clear hZ
 have S1 := Ho.mk (R7.shl_calls A0 c0 x k (k : Int) w0 (H0.out.bel HB.out) hc0 (by omega) (Int.toNat_natCast k).symm (by omega))
 have hkk : e0 - e1 = (k : Int) := hk
 rw [hkk]
 clear hk
 (with_reducible refine (S1.out).mono ?_); rintro e w1 ⟨A2, c2, rfl, hc2, hr2, hb2⟩
 have KA1 := Ho.mk (KA.out.bel hb2)
 have KC1 := Ho.mk (KC.out.bel hb2)
 have KZ1 := Ho.mk (KZ.out.bel hb2)
 have HB1 := Ho.mk (HB.out.trans hb2)
 have HR2 := Ho.mk hr2
 have x1 := KC1.out.cell (i := 1) rfl
 have x2 := KC1.out.cell (i := 2) rfl
 clear hb2 hr2 KA KC KZ HB S1
 have hl2 : (digs (x * 2 ^ k)).length ≤ 2700 := by
  have := D4.len_mul (x := x) (y := 2 ^ k) hl0 (len_p2 k)
  omega
 have hl3 : (digs (x * 2 ^ k - y)).length ≤ 3800 := Nat.le_trans (digs_len_mono (Nat.sub_le _ _)) (by omega)
 have hcm : decide (cmpI ((x * 2 ^ k : Nat) : Int) (y : Int) ≥ 0) = true := by
  rcases Nat.lt_or_eq_of_le HGE.out with h | h
  ·rw [cmpI_gt (by omega)]; rfl
  ·rw [cmpI_eq (by omega)]; rfl
 have S2 := Ho.mk (R7.shl_calls A1 c1 y 0 0 w1 (H1.out.bel HB1.out) hc1 (by omega) rfl (by omega))
 rw [Nat.pow_zero, Nat.mul_one] at S2
 have S3 := Ho.mk (fun (A : Option Addr) (c : Nat) (W : World) (g0 : Rd W A2 (digs (x * 2 ^ k))) (g1 : Rd W A (digs y)) => R5.sub_calls A2 A c2 c (x * 2 ^ k) y W g0 g1 (by omega) HGE.out)
 have S5 := Ho.mk (fun (A : Option Addr) (c : Nat) (W : World) (g0 : Rd W A2 (digs (x * 2 ^ k))) (g1 : Rd W A (digs y)) => R3.cmp_calls A2 A c2 c (x * 2 ^ k) y W g0 g1)
 have S4 := Ho.mk (fun (A : Option Addr) (c : Nat) (W : World) (g : Rd W A (digs (x * 2 ^ k - y))) (hc : (digs (x * 2 ^ k - y)).length ≤ c) => make_calls A c (x * 2 ^ k - y) n e1 W g hc (by omega) (by omega) (by omega))
 rw [HV.out] at S4
 generalize sc n x e0 + sc (!n) y e1 = r at *
 clear hk1 hl2 hl3 HV HGE
 generalize cmpI ((x * 2 ^ k : Nat) : Int) (y : Int) = q at *
 generalize x * 2 ^ k - y = xy at *
 generalize x * 2 ^ k = yk at *
 go_wp2_with fail
 (with_reducible refine (S2.out).mono ?_); rintro e w2 ⟨A3, c3, rfl, hc3, hr3, hb3⟩
 have KA2 := Ho.mk (KA1.out.bel hb3)
 have KC2 := Ho.mk (KC1.out.bel hb3)
 have KZ2 := Ho.mk (KZ1.out.bel hb3)
 have HB2 := Ho.mk (HB1.out.trans hb3)
 have HR3 := Ho.mk hr3
 have HR22 := Ho.mk (HR2.out.bel hb3)
 have u0 := KA2.out.cell (i := 0) rfl
 have u1 := KC2.out.cell (i := 0) rfl
 have hnn : (n == !n) = false := by cases n <;> rfl
 clear hb3 hr3 KA1 KC1 KZ1 HB1 S2 x1 x2 HR2
 go_wp2_with fail
 (with_reducible refine (S5.out _ _ _ HR22.out HR3.out).mono ?_); rintro e w3 ⟨rfl, hd⟩
 have hbd : Bel w2 w3 := by obtain ⟨m, rfl⟩ := hd; exact (Bel.refl w2).drewN m
 have HR4 := Ho.mk (HR22.out.bel hbd)
 have HR5 := Ho.mk (HR3.out.bel hbd)
 have KA3 := Ho.mk (KA2.out.bel hbd)
 have KZ3 := Ho.mk (KZ2.out.bel hbd)
 have HB3 := Ho.mk (HB2.out.trans hbd)
 clear hd hbd u0 u1
 go_wp2_with fail
 (with_reducible refine (S3.out _ _ _ HR4.out HR5.out).mono ?_); rintro e w4 ⟨A6, c6, rfl, hc6, hr6, hb6⟩
 have u0 := (KA3.out.bel hb6).cell (i := 0) rfl
 have KZ4 := Ho.mk (KZ3.out.bel hb6)
 have HB4 := Ho.mk (HB3.out.trans hb6)
 clear hb6
 go_wp2_with fail
 (with_reducible refine (S4.out _ _ _ hr6 hc6).mono ?_); rintro e w5 ⟨A7, c7, rfl, hc7, hr7, hb7⟩
 have KB2 := Ho.mk (KZ4.out.bel hb7)
 have HB5 := Ho.mk (HB4.out.trans hb7)
 obtain ⟨y0, y1, y2⟩ := KB2.out.c3
 have z0 := KB2.out.free 0
 have z1 := KB2.out.free 1
 have z2 := KB2.out.free 2
 have HR7 := Ho.mk hr7
 clear hr7 hr6 hb7 u0
 go_wp2
 exact gives_end (fn := Tryz.f25) rfl rfl HB5.out (by omega) KB2.out HR7.out hc7
theorem addV2_calls (A0 A1 : Option Addr) (c0 c1 x y : Nat) (n : Bool) (e0 e1 : Int) (w : World) (h0 : Rd w A0 (digs x)) (h1 : Rd w A1 (digs y)) (hc0 : (digs x).length ≤ c0) (hc1 : (digs y).length ≤ c1) (hx : x ≠ 0) (hy : y ≠ 0)
  (hl0 : (digs x).length ≤ 1000) (hl1 : (digs y).length ≤ 1000) (he : e1 < e0) (b0 : -20000 ≤ e1) (b1 : e0 ≤ 20000) (hge : ∀ k : Nat, e0 = e1 + k → x * 2 ^ k < y) :
  Calls Tryz.prog 25 #[.agg #[.bool n, .slice A0 (digs x).length c0, .int .i64 e0], .agg #[.bool (!n), .slice A1 (digs y).length c1, .int .i64 e1]] w (Gives w (sc n x e0 + sc (!n) y e1)) := by
 have hb0 : (((digs x).length : Int) == 0) = false := beq_eq_false_iff_ne.mpr (fun c => hx (digs_nil.1 (List.length_eq_zero_iff.1 (Int.ofNat.inj c))))
 have hb1 : (((digs y).length : Int) == 0) = false := beq_eq_false_iff_ne.mpr (fun c => hy (digs_nil.1 (List.length_eq_zero_iff.1 (Int.ofNat.inj c))))
 have H0 := Ho.mk h0
 have H1 := Ho.mk h1
 clear h0 h1
 have nn := D4.ne2 w.heap.size
 have nn2 : ¬ (w.heap.size + 1 + 1 = w.heap.size) := fun q => D4.ne2 w.heap.size q.symm
 go_enter Tryz.func25, Tryz.ntmps25
 go_wp2_with fail
 obtain ⟨k, hk⟩ := Int.eq_ofNat_of_zero_le (show 0 ≤ e0 - e1 by omega)
 have hk1 : e0 = e1 + k := by omega
 have HV : Ho (sc (!n) (y - x * 2 ^ k) e1 = sc n x e0 + sc (!n) y e1) := ⟨by rw [sc_sub _ _ _ _ (Nat.le_of_lt (hge k hk1)), hk1, sc_down _ _ _ _ (by unfold K; omega), Bool.not_not, Int.add_comm]⟩
 have HGE := Ho.mk (hge k hk1)
 clear hge
 have hk5 : k ≤ 40000 := by omega
 have KA := Ho.mk (((Blk.new w [.bool n, .slice A0 (digs x).length c0, .int .i64 e0] 37).old (.cells #[.bool (!n), .slice A1 (digs y).length c1, .int .i64 e1] 37)).old (.cells #[.bool false, .slice none 0 0, .int .i64 0] 37))
 have KC := Ho.mk ((Blk.new (w.alloc (.cells #[.bool n, .slice A0 (digs x).length c0, .int .i64 e0] 37)) [.bool (!n), .slice A1 (digs y).length c1, .int .i64 e1] 37).old (.cells #[.bool false, .slice none 0 0, .int .i64 0] 37))
 have KZ := Ho.mk (Blk.new ((w.alloc (.cells #[.bool n, .slice A0 (digs x).length c0, .int .i64 e0] 37)).alloc (.cells #[.bool (!n), .slice A1 (digs y).length c1, .int .i64 e1] 37)) [.bool false, .slice none 0 0, .int .i64 0] 37)
 have HB := Ho.mk ((((Bel.refl w).alloc (.cells #[.bool n, .slice A0 (digs x).length c0, .int .i64 e0] 37)).alloc (.cells #[.bool (!n), .slice A1 (digs y).length c1, .int .i64 e1] 37)).alloc (.cells #[.bool false, .slice none 0 0, .int .i64 0] 37))
 rw [World.size_alloc] at KC
 rw [World.size_alloc, World.size_alloc] at KZ
 have hZ : ((w.alloc (.cells #[.bool n, .slice A0 (digs x).length c0, .int .i64 e0] 37)).alloc (.cells #[.bool (!n), .slice A1 (digs y).length c1, .int .i64 e1] 37)).alloc (.cells #[.bool false, .slice none 0 0, .int .i64 0] 37) = ((w.alloc (.cells #[.bool n, .slice A0 (digs x).length c0, .int .i64 e0] 37)).alloc (.cells #[.bool (!n), .slice A1 (digs y).length c1, .int .i64 e1] 37)).alloc (.cells #[.bool false, .slice none 0 0, .int .i64 0] 37) := rfl
 generalize ((w.alloc (.cells #[.bool n, .slice A0 (digs x).length c0, .int .i64 e0] 37)).alloc (.cells #[.bool (!n), .slice A1 (digs y).length c1, .int .i64 e1] 37)).alloc (.cells #[.bool false, .slice none 0 0, .int .i64 0] 37) = w0 at *
 clear hZ
 have S1 := Ho.mk (R7.shl_calls A0 c0 x k (k : Int) w0 (H0.out.bel HB.out) hc0 (by omega) (Int.toNat_natCast k).symm (by omega))
 have hkk : e0 - e1 = (k : Int) := hk
 rw [hkk]
 clear hk
 (with_reducible refine (S1.out).mono ?_); rintro e w1 ⟨A2, c2, rfl, hc2, hr2, hb2⟩
 have KA1 := Ho.mk (KA.out.bel hb2)
 have KC1 := Ho.mk (KC.out.bel hb2)
 have KZ1 := Ho.mk (KZ.out.bel hb2)
 have HB1 := Ho.mk (HB.out.trans hb2)
 have HR2 := Ho.mk hr2
 have x1 := KC1.out.cell (i := 1) rfl
 have x2 := KC1.out.cell (i := 2) rfl
 clear hb2 hr2 KA KC KZ HB S1
 have hl2 : (digs (x * 2 ^ k)).length ≤ 2700 := by
  have := D4.len_mul (x := x) (y := 2 ^ k) hl0 (len_p2 k)
  omega
 have hl3 : (digs (y - x * 2 ^ k)).length ≤ 3800 := Nat.le_trans (digs_len_mono (Nat.sub_le _ _)) (by omega)
 have hcm : decide (cmpI ((x * 2 ^ k : Nat) : Int) (y : Int) ≥ 0) = false := by
  have h := HGE.out
  rw [cmpI_lt (by omega)]; rfl
 have S2 := Ho.mk (R7.shl_calls A1 c1 y 0 0 w1 (H1.out.bel HB1.out) hc1 (by omega) rfl (by omega))
 rw [Nat.pow_zero, Nat.mul_one] at S2
 have S3 := Ho.mk (fun (A : Option Addr) (c : Nat) (W : World) (g0 : Rd W A2 (digs (x * 2 ^ k))) (g1 : Rd W A (digs y)) => R5.sub_calls A A2 c c2 y (x * 2 ^ k) W g1 g0 (by omega) (Nat.le_of_lt HGE.out))
 have S5 := Ho.mk (fun (A : Option Addr) (c : Nat) (W : World) (g0 : Rd W A2 (digs (x * 2 ^ k))) (g1 : Rd W A (digs y)) => R3.cmp_calls A2 A c2 c (x * 2 ^ k) y W g0 g1)
 have S4 := Ho.mk (fun (A : Option Addr) (c : Nat) (W : World) (g : Rd W A (digs (y - x * 2 ^ k))) (hc : (digs (y - x * 2 ^ k)).length ≤ c) => make_calls A c (y - x * 2 ^ k) (!n) e1 W g hc (by omega) (by omega) (by omega))
 rw [HV.out] at S4
 generalize sc n x e0 + sc (!n) y e1 = r at *
 clear hk1 hl2 hl3 HV HGE
 generalize cmpI ((x * 2 ^ k : Nat) : Int) (y : Int) = q at *
 generalize y - x * 2 ^ k = xy at *
 generalize x * 2 ^ k = yk at *
 go_wp2_with fail
 (with_reducible refine (S2.out).mono ?_); rintro e w2 ⟨A3, c3, rfl, hc3, hr3, hb3⟩
 have KA2 := Ho.mk (KA1.out.bel hb3)
 have KC2 := Ho.mk (KC1.out.bel hb3)
 have KZ2 := Ho.mk (KZ1.out.bel hb3)
 have HB2 := Ho.mk (HB1.out.trans hb3)
 have HR3 := Ho.mk hr3
 have HR22 := Ho.mk (HR2.out.bel hb3)
 have u0 := KA2.out.cell (i := 0) rfl
 have u1 := KC2.out.cell (i := 0) rfl
 have hnn : (n == !n) = false := by cases n <;> rfl
 clear hb3 hr3 KA1 KC1 KZ1 HB1 S2 x1 x2 HR2
 go_wp2_with fail
 (with_reducible refine (S5.out _ _ _ HR22.out HR3.out).mono ?_); rintro e w3 ⟨rfl, hd⟩
 have hbd : Bel w2 w3 := by obtain ⟨m, rfl⟩ := hd; exact (Bel.refl w2).drewN m
 have HR4 := Ho.mk (HR22.out.bel hbd)
 have HR5 := Ho.mk (HR3.out.bel hbd)
 have KA3 := Ho.mk (KC2.out.bel hbd)
 have KZ3 := Ho.mk (KZ2.out.bel hbd)
 have HB3 := Ho.mk (HB2.out.trans hbd)
 clear hd hbd u0 u1
 go_wp2_with fail
 (with_reducible refine (S3.out _ _ _ HR4.out HR5.out).mono ?_); rintro e w4 ⟨A6, c6, rfl, hc6, hr6, hb6⟩
 have u0 := (KA3.out.bel hb6).cell (i := 0) rfl
 have KZ4 := Ho.mk (KZ3.out.bel hb6)
 have HB4 := Ho.mk (HB3.out.trans hb6)
 clear hb6
 go_wp2_with fail
 (with_reducible refine (S4.out _ _ _ hr6 hc6).mono ?_); rintro e w5 ⟨A7, c7, rfl, hc7, hr7, hb7⟩
 have KB2 := Ho.mk (KZ4.out.bel hb7)
 have HB5 := Ho.mk (HB4.out.trans hb7)
 obtain ⟨y0, y1, y2⟩ := KB2.out.c3
 have z0 := KB2.out.free 0
 have z1 := KB2.out.free 1
 have z2 := KB2.out.free 2
 have HR7 := Ho.mk hr7
 clear hr7 hr6 hb7 u0
 go_wp2
 exact gives_end (fn := Tryz.f25) rfl rfl HB5.out (by omega) KB2.out HR7.out hc7
end D6
namespace D7
open Go.RowKit Go.Proofs.YtalbgklfhabnkaaGreatDoor Ow Pl Dp D3 D6
theorem add_calls (A0 A1 : Option Addr) (c0 c1 : Nat) (u v : Int) (w : World) (h0 : Rd w A0 (digs (dm u))) (h1 : Rd w A1 (digs (dm v))) (hc0 : (digs (dm u)).length ≤ c0) (hc1 : (digs (dm v)).length ≤ c1)
  (hl0 : (digs (dm u)).length ≤ 1000) (hl1 : (digs (dm v)).length ≤ 1000) (b0 : -20000 ≤ de u) (b1 : de u ≤ 20000) (b2 : -20000 ≤ de v) (b3 : de v ≤ 20000) :
  Calls Tryz.prog 25 #[.agg #[.bool (dneg u), .slice A0 (digs (dm u)).length c0, .int .i64 (de u)], .agg #[.bool (dneg v), .slice A1 (digs (dm v)).length c1, .int .i64 (de v)]] w (Gives w (u + v)) := by
 by_cases hu : u = 0
 ·subst hu
  rw [Int.zero_add, show dneg 0 = false from rfl, show dm 0 = 0 from odd_zero, digs_zero, de_zero]
  exact addZ_calls A0 A1 c0 c1 v w h1 hc1
 by_cases hv : v = 0
 ·subst hv
  rw [Int.add_zero, show dneg 0 = false from rfl, show dm 0 = 0 from odd_zero, digs_zero, de_zero]
  exact addZ2_calls A0 A1 c0 c1 u w h0 hc0 hu
 have hx : dm u ≠ 0 := fun e => hu (dm_zero.1 e)
 have hy : dm v ≠ 0 := fun e => hv (dm_zero.1 e)
 have e1 := sc_self u
 have e2 := sc_self v
 by_cases hs : dneg v = dneg u
 ·rw [hs] at e2 ⊢
  rcases Int.lt_or_le (de v) (de u) with he | he
  ·have := addS2_calls A0 A1 c0 c1 (dm u) (dm v) (dneg u) (de u) (de v) w h0 h1 hc0 hc1 hx hy hl0 hl1 he b2 b1
   rw [e1, e2] at this; exact this
  ·have := addS_calls A0 A1 c0 c1 (dm u) (dm v) (dneg u) (de u) (de v) w h0 h1 hc0 hc1 hx hy hl0 hl1 he b0 b3
   rw [e1, e2] at this; exact this
 ·have hs' : dneg v = !dneg u := by cases h1 : dneg v <;> cases h2 : dneg u <;> simp [h1, h2] at hs ⊢
  rw [hs'] at e2 ⊢
  rcases Int.lt_or_le (de v) (de u) with he | he
  ·obtain ⟨k, hk⟩ := Int.eq_ofNat_of_zero_le (show 0 ≤ de u - de v by omega)
   rcases Nat.lt_or_ge (dm u * 2 ^ k) (dm v) with hl | hl
   ·have := addV2_calls A0 A1 c0 c1 (dm u) (dm v) (dneg u) (de u) (de v) w h0 h1 hc0 hc1 hx hy hl0 hl1 he b2 b1 (fun j hj => by rw [show j = k from by omega]; exact hl)
    rw [e1, e2] at this; exact this
   ·have := addU2_calls A0 A1 c0 c1 (dm u) (dm v) (dneg u) (de u) (de v) w h0 h1 hc0 hc1 hx hy hl0 hl1 he b2 b1 (fun j hj => by rw [show j = k from by omega]; exact hl)
    rw [e1, e2] at this; exact this
  ·obtain ⟨k, hk⟩ := Int.eq_ofNat_of_zero_le (show 0 ≤ de v - de u by omega)
   rcases Nat.lt_or_ge (dm u) (dm v * 2 ^ k) with hl | hl
   ·have := addV_calls A0 A1 c0 c1 (dm u) (dm v) (dneg u) (de u) (de v) w h0 h1 hc0 hc1 hx hy hl0 hl1 he b0 b3 (fun j hj => by rw [show j = k from by omega]; exact hl)
    rw [e1, e2] at this; exact this
   ·have := addU_calls A0 A1 c0 c1 (dm u) (dm v) (dneg u) (de u) (de v) w h0 h1 hc0 hc1 hx hy hl0 hl1 he b0 b3 (fun j hj => by rw [show j = k from by omega]; exact hl)
    rw [e1, e2] at this; exact this
end D7
namespace F1
open Go Go.RowKit Go.Proofs.YtalbgklfhabnkaaGreatDoor Ow Pl Dp Dt D3
section
variable {w : World} {A B : Option Addr} {c d : Nat} {u v : Int} {L U L' U' : Nat}
theorem rAdd (h : Dv w A c u L U) (k : Dv w B d v L' U') (h1 : L + U ≤ 20000) (h2 : L' + U' ≤ 20000) :
  Calls Tryz.prog 25 #[.agg #[.bool (dneg u), .slice A (digs (dm u)).length c, .int .i64 (de u)], .agg #[.bool (dneg v), .slice B (digs (dm v)).length d, .int .i64 (de v)]] w (MakesD w (u + v) (L + L') (U + U' + 1)) :=
 (D7.add_calls A B c d u v w h.rd k.rd h.cap k.cap (h.len h1) (k.len h2) (h.e0 h1) (h.e1 h1) (k.e0 h2) (k.e1 h2)).mono (makesD_of rfl (h.wd.add k.wd (by unfold K; omega)))
theorem rOf (n : Int) (h0 : -9223372036854775807 ≤ n) (h1 : n ≤ 9223372036854775807) : Calls Tryz.prog 26 #[.int .i64 n] w (MakesD w (n * 2 ^ K) 0 64) :=
 (D5.of_calls n w h0 h1).mono (makesD_of (ofD_sc n) (wd_ofD h0 h1))
theorem rMake {x b : Nat} (h : Nv w A c x b) (n : Bool) (e : Int) (hb : b ≤ 20000) (hL : L ≤ 20000) (e0 : -(L : Int) ≤ e) (e1 : e + b ≤ U) (hU : U ≤ 20000) : Calls Tryz.prog 51 #[.bool n, .slice A (digs x).length c, .int .i64 e] w (MakesD w (sc n x e) L U) :=
 (D2.make_calls A c x n e w h.rd h.cap (by have := h.len; omega) (by omega) (by omega)).mono (makesD_of rfl (wd_sc n h.lt e0 e1 (by unfold K; omega)))
theorem rNOf (n : Int) {x b : Nat} (hx : x = n.toNat) (h1 : n ≤ 9223372036854775807) (hb : x < 2 ^ b) : Calls Tryz.prog 55 #[.int .i64 n] w fun e w' => ∃ A c, e = .returned (.slice A (digs x).length c) ∧ Nv w' A c x b ∧ Bel w w' :=
 (R2.refOf_calls n x w hx h1).mono fun e w' ⟨A, c, h1, h2, h3, h4⟩ => ⟨A, c, h1, ⟨h2, h3, hb⟩, h4⟩
end
end F1
namespace Gq
open Ieee Go Go.RowKit Ow Pl Dp Gp
def fv (b : Nat) : Int := V b * 2 ^ S
theorem fv_sc (b : Nat) : sc (fneg b) (sig (frung b)) ((plc (frung b) : Int) - 1074) = fv b := by
 obtain ⟨_, _, _, e⟩ := rung_split (frung b)
 unfold fv V sc sv
 rw [e]
 have : ((plc (frung b) : Int) - 1074 + K).toNat = plc (frung b) + S := by unfold K S; omega
 rw [this, Nat.pow_add, ← Nat.mul_assoc, Int.natCast_mul _ (2 ^ S), Int.natCast_pow]
 rw [show ((2 : Nat) : Int) = 2 from rfl]
 generalize (2 : Int) ^ S = p
 cases fneg b
 ·rw [if_neg (by decide), if_neg (by decide), Int.one_mul]
 ·rw [if_pos rfl, if_pos rfl, Int.neg_mul, Int.neg_mul, Int.one_mul]
end Gq
namespace I1
open Go Go.RowKit Go.Proofs.YtalbgklfhabnkaaGreatDoor Ow Pl Dp Dt D3 F1 T0 I0
attribute [local go_sem ↓] Go.wp_at_zero Go.wp_at_succ
theorem rPoint {A0 : Option Addr} {c0 : Nat} {v : Int} {L0 U0 : Nat} (w : World) (p0 : Dv w A0 c0 v L0 U0) :
  Calls Tryz.prog 58 #[.agg #[.bool (dneg v), .slice A0 (digs (dm v)).length c0, .int .i64 (de v)]] w (MakesI w (v, v) L0 U0) := by
 have K := Blk.new (w.alloc (.cells #[.bool (dneg v), .slice A0 (digs (dm v)).length c0, .int .i64 (de v)] 37)) [.bool (dneg v), .slice A0 (digs (dm v)).length c0, .int .i64 (de v), .bool (dneg v), .slice A0 (digs (dm v)).length c0, .int .i64 (de v)] 42
 rw [World.size_alloc] at K
 have G := Ho.mk (((Bel.refl w).alloc (.cells #[.bool (dneg v), .slice A0 (digs (dm v)).length c0, .int .i64 (de v)] 37)).alloc (.cells #[.bool (dneg v), .slice A0 (digs (dm v)).length c0, .int .i64 (de v), .bool (dneg v), .slice A0 (digs (dm v)).length c0, .int .i64 (de v)] 42))
 have P := Ho.mk p0
 have KK := Ho.mk K
 clear p0 K
 go_enter Tryz.func58, Tryz.ntmps58
 go_wp2
 exact bodyPost_ret (v := .agg #[.bool (dneg v), .slice A0 (digs (dm v)).length c0, .int .i64 (de v), .bool (dneg v), .slice A0 (digs (dm v)).length c0, .int .i64 (de v)]) (res6 (fn := Tryz.f58) rfl rfl KK.out) rfl ⟨A0, c0, A0, c0, rfl, P.out.bel G.out, P.out.bel G.out, G.out⟩
end I1
namespace G5
open Ieee Go Go.RowKit Go.Proofs.YtalbgklfhabnkaaGreatDoor Ow Pl Dp Dt Gp Gq G1 G2 G3 G4 F1
def MakesF (w : World) (v : Int) (ok : Bool) (L U : Nat) (e : Ending) (w' : World) : Prop :=
 ∃ A c, e = .returned (.tuple #[.agg #[.bool (dneg v), .slice A (digs (dm v)).length c, .int .i64 (de v)], .bool ok]) ∧ Dv w' A c v L U ∧ Bel w w'
theorem e_frung {b : Nat} (hb : b < 2 * sgnW) : b / bn % 2048 = frung b / bn ∧ b % bn = frung b % bn := by
 have e : sgnW = bn * 2048 := by decide
 unfold frung
 rw [e]
 refine ⟨?_, ?_⟩
 ·rw [Nat.mod_mul_right_div_self]
 ·rw [Nat.mod_mul_right_mod]
theorem w1_top {b : Nat} (hb : b < 2 * sgnW) : (w1 b = 2047 ↔ ¬ frung b < infR) := by
 unfold w1
 rw [(e_frung hb).1]
 have h : frung b < sgnW := Nat.mod_lt _ (by decide)
 have e : sgnW = 2048 * bn := by decide
 have e2 : infR = 2047 * bn := by decide
 have h2 : frung b / bn < 2048 := Nat.div_lt_of_lt_mul (by rw [Nat.mul_comm, ← e]; exact h)
 have h3 : frung b / bn < 2047 ↔ frung b < 2047 * bn := Nat.div_lt_iff_lt_mul (by decide)
 rw [e2, ← h3]
 generalize frung b / bn = z at *
 omega
theorem w1_zero {b : Nat} (hb : b < 2 * sgnW) : (w1 b = 0 ↔ frung b < bn) := by
 unfold w1
 rw [(e_frung hb).1]
 have h3 : frung b / bn < 1 ↔ frung b < 1 * bn := Nat.div_lt_iff_lt_mul (by decide)
 rw [Nat.one_mul] at h3
 rw [← h3]
 generalize frung b / bn = z at *
 omega
theorem parts_low {b : Nat} (hb : b < 2 * sgnW) (h : w1 b = 0) : (w2 b).toNat = sig (frung b) ∧ (1 : Int) - 1075 = (plc (frung b) : Int) - 1074 := by
 have hl := (w1_zero hb).1 h
 unfold w2 sig plc
 rw [(e_frung hb).2, if_pos hl, Nat.mod_eq_of_lt hl, Nat.div_eq_of_lt hl]
 exact ⟨rfl, rfl⟩
theorem parts_high {b : Nat} (hb : b < 2 * sgnW) (h : w1 b ≠ 0) : (w2 b + 4503599627370496).toNat = sig (frung b) ∧ w1 b - 1075 = (plc (frung b) : Int) - 1074 := by
 have hl := fun q => h ((w1_zero hb).2 q)
 have hl2 : 1 ≤ frung b / bn := (Nat.le_div_iff_mul_le (by decide)).2 (by rw [Nat.one_mul]; exact Nat.not_lt.1 hl)
 unfold w2 sig plc w1
 rw [(e_frung hb).2, (e_frung hb).1, if_neg hl]
 rw [show (4503599627370496 : Int) = ((bn : Nat) : Int) from rfl]
 generalize frung b / bn = z at *
 generalize frung b % bn = y at *
 exact ⟨by omega, by omega⟩
theorem sign_bit {b : Nat} (hb : b < 2 * sgnW) : (w0 b == 1) = fneg b := by
 unfold w0 fneg
 by_cases h1 : sgnW ≤ b
 ·have : b / sgnW = 1 := by apply Nat.div_eq_of_lt_le <;> omega
  rw [this, decide_eq_true h1]; rfl
 ·rw [Nat.div_eq_of_lt (by omega), decide_eq_false h1]; rfl
theorem sig_lt (b : Nat) : sig (frung b) < 2 ^ 53 := (rung_split (frung b)).2.1
theorem plc_le {b : Nat} (h : frung b < infR) : plc (frung b) ≤ 2045 := by
 have e2 : infR = 2047 * bn := by decide
 have h3 : frung b / bn < 2047 := (Nat.div_lt_iff_lt_mul (by decide)).2 (by rw [← e2]; exact h)
 unfold plc; omega
theorem res3b {fn : Func} {p q : Tmp} {tmps : Array Value} {w : World} {b : Nat} {v0 v1 v2 : Value} {ok : Bool} (hf : fn.results = #[.cell p 37, .tmp q]) (hp : tmps.getD p undef = .pointer (some ⟨b, 0, none⟩)) (hq : tmps.getD q undef = .bool ok)
  (h : Blk w b 37 [v0, v1, v2]) : (results fn tmps).run Tryz.prog w = .ok (.tuple #[.agg #[v0, v1, v2], .bool ok]) w := by
 obtain ⟨y0, y1, y2⟩ := h.c3
 have hp2 := hp
 rw [Array.getD_eq_getD_getElem?] at hp2
 have hq2 := hq
 rw [Array.getD_eq_getD_getElem?] at hq2
 simp [results, hf, hp2, hq2, go_sem, y0, y1, y2]
theorem givesF_end {fn : Func} {p q : Tmp} {tmps : Array Value} {w w2 : World} {v : Int} {ok : Bool} {b c2 L U : Nat} {A2 : Option Addr} (hf : fn.results = #[.cell p 37, .tmp q]) (hp : tmps.getD p undef = .pointer (some ⟨b, 0, none⟩)) (hq : tmps.getD q undef = .bool ok)
  (hB : Bel w w2) (hb : w.heap.size ≤ b) (KB : Blk w2 b 37 [.bool false, .slice none 0 0, .int .i64 0]) (D : Dv w2 A2 c2 v L U) :
  bodyPost Tryz.prog fn (MakesF w v ok L U) .ret { tmps := tmps, defers := [] }
   (((w2.setCell ⟨b, 0, none⟩ (.bool (dneg v))).setCell ⟨b, 1, none⟩ (.slice A2 (digs (dm v)).length c2)).setCell ⟨b, 2, none⟩ (.int .i64 (de v))) := by
 have KF := ((KB.set 0 (.bool (dneg v))).set 1 (.slice A2 (digs (dm v)).length c2)).set 2 (.int .i64 (de v))
 have BF := ((hB.out.setCell (p := ⟨b, 0, none⟩) hb (.bool (dneg v))).setCell (p := ⟨b, 1, none⟩) hb (.slice A2 (digs (dm v)).length c2)).setCell (p := ⟨b, 2, none⟩) hb (.int .i64 (de v))
 have RF : Rd (((w2.setCell ⟨b, 0, none⟩ (.bool (dneg v))).setCell ⟨b, 1, none⟩ (.slice A2 (digs (dm v)).length c2)).setCell ⟨b, 2, none⟩ (.int .i64 (de v))) A2 (digs (dm v)) := by
  by_cases h0 : dm v = 0
  ·rw [h0, digs_zero]; exact Rd.nil _ _
  ·exact D2.rd_set3 D.rd (fun ad2 he => by subst he; exact D2.rd_far KB (fun z => by simp) D.rd h0) _ _ _
 exact bodyPost_ret (v := .tuple #[.agg #[.bool (dneg v), .slice A2 (digs (dm v)).length c2, .int .i64 (de v)], .bool ok]) (res3b hf hp hq KF) rfl ⟨A2, c2, rfl, ⟨D.cap, RF, D.wd⟩, ⟨BF⟩⟩
theorem rof_yes_calls {b : Nat} (hb : b < 2 * sgnW) (h : frung b < infR) (w : World) : Calls Tryz.prog 57 #[.float .f64 b] w (MakesF w (fv b) true 1074 1024) := by
 have rb := fun w => run_bits b w
 have d0 : (b : Int) / 9223372036854775808 = w0 b := rfl
 have d1 : bits .and .u64 ((b : Int) / 4503599627370496) 2047 = w1 b := and_2047 hb
 have d2 : bits .and .u64 (b : Int) 4503599627370495 = w2 b := and_frac hb
 have c0 : 0 ≤ w2 b := Int.natCast_nonneg _
 have c1 : w2 b ≤ 4503599627370495 := by
  unfold w2
  have : b % bn < 4503599627370496 := Nat.mod_lt _ (by decide)
  omega
 have hs := sign_bit hb
 have hp := plc_le h
 have hsc := fv_sc b
 have e := (not_congr (w1_top hb)).2 (fun q => q h)
 have MK := Ho.mk (fun (A : Option Addr) (c : Nat) (W : World) (d : Nv W A c (sig (frung b)) 53) => rMake d (L := 1074) (U := 1024) (fneg b) ((plc (frung b) : Int) - 1074) (by omega) (by omega) (by omega) (by omega) (by omega))
 rw [hsc] at MK
 have hm := sig_lt b
 have OF := Ho.mk (fun (n : Int) (W : World) (hn : sig (frung b) = n.toNat) (h1 : n ≤ 9223372036854775807) => rNOf (w := W) n hn h1 hm)
 have h3 : 0 ≤ w1 b ∧ w1 b ≤ 2047 := by unfold w1; omega
 obtain ⟨h30, h31⟩ := h3
 have KB := Ho.mk (Blk.new w [.bool false, .slice none 0 0, .int .i64 0] 37)
 have HB := Ho.mk ((Bel.refl w).alloc (.cells #[.bool false, .slice none 0 0, .int .i64 0] 37))
 clear hsc hm
 by_cases h0 : w1 b = 0
 ·obtain ⟨p1, p2⟩ := parts_low hb h0
  clear hb h
  rw [← p2, show (1 : Int) - 1075 = -1074 from rfl] at MK
  rw [h0] at d1
  have OF2 := Ho.mk (fun W => OF.out (w2 b) W p1.symm (by omega))
  clear p1 p2 OF e h0 hp h30 h31
  generalize fv b = v at *
  generalize w0 b = x0 at *
  generalize w2 b = x2 at *
  generalize fneg b = nb at *
  generalize sig (frung b) = m at *
  go_enter Tryz.func57, Tryz.ntmps57
  go_wp2_with fail
  (with_reducible refine (OF2.out _).mono ?_); rintro _ w3 ⟨A3, c3, rfl, hn3, hb3⟩
  go_wp2_with fail
  (with_reducible refine (MK.out _ _ _ hn3).mono ?_); rintro _ w4 ⟨A4, c4, rfl, hd4, hb4⟩
  have KB4 := Ho.mk (KB.out.bel (hb3.trans hb4))
  have HB4 := Ho.mk (HB.out.trans (hb3.trans hb4))
  obtain ⟨y0, y1, y2⟩ := KB4.out.c3
  have z0 := KB4.out.free 0
  have z1 := KB4.out.free 1
  have z2 := KB4.out.free 2
  have HD4 := Ho.mk hd4
  clear hd4 hn3 hb3 hb4
  go_wp2
  exact givesF_end (fn := Tryz.f57) (p := 2) (q := 3) rfl rfl rfl HB4.out (Nat.le_refl _) KB4.out HD4.out
 ·obtain ⟨p1, p2⟩ := parts_high hb h0
  rw [← p2] at MK
  have OF2 := Ho.mk (fun W => OF.out (w2 b + 4503599627370496) W p1.symm (by omega))
  have h1 : (w1 b == 0) = false := beq_eq_false_iff_ne.2 h0
  have h2 : (w1 b == 2047) = false := beq_eq_false_iff_ne.2 e
  have q1 : IntKind.i64.wrap (w1 b - 1075) = w1 b - 1075 := IntWalk.i64_in _ (by omega)
  clear p1 p2 OF e h0 hp hb h
  generalize fv b = v at *
  generalize w0 b = x0 at *
  generalize w1 b = x1 at *
  generalize w2 b = x2 at *
  generalize fneg b = nb at *
  generalize sig (frung b) = m at *
  go_enter Tryz.func57, Tryz.ntmps57
  go_wp2_with fail
  (with_reducible refine (OF2.out _).mono ?_); rintro _ w3 ⟨A3, c3, rfl, hn3, hb3⟩
  go_wp2_with fail
  (with_reducible refine (MK.out _ _ _ hn3).mono ?_); rintro _ w4 ⟨A4, c4, rfl, hd4, hb4⟩
  have KB4 := Ho.mk (KB.out.bel (hb3.trans hb4))
  have HB4 := Ho.mk (HB.out.trans (hb3.trans hb4))
  obtain ⟨y0, y1, y2⟩ := KB4.out.c3
  have z0 := KB4.out.free 0
  have z1 := KB4.out.free 1
  have z2 := KB4.out.free 2
  have HD4 := Ho.mk hd4
  clear hd4 hn3 hb3 hb4
  go_wp2
  exact givesF_end (fn := Tryz.f57) (p := 2) (q := 3) rfl rfl rfl HB4.out (Nat.le_refl _) KB4.out HD4.out
end G5
namespace W0
open Ieee Go Go.RowKit Go.Proofs.YtalbgklfhabnkaaGreatDoor Ow Gp Gq Gr G1 G2 G3 G4 G9
def fdiv (x y : Nat) : Nat := told ((double.read x).quotient (double.fractionBits + 2) (double.read y))
end W0
namespace W1
open Ieee Go Gp Gq Gr W0
theorem fadd_zero {x : Nat} (hx : Nm x) : fadd x 0 = x := by rw [fadd_fin hx nm_zero, show V 0 = 0 from by decide, Int.add_zero, R_self hx]
theorem zero_fadd {x : Nat} (hx : Nm x) : fadd 0 x = x := by rw [fadd_fin nm_zero hx, show V 0 = 0 from by decide, Int.zero_add, R_self hx]
end W1
namespace W2
open Ieee Go Gp Gq Gr W0 W1
theorem fmul_down {x p : Nat} (hx : Nm x) (hp : p ≤ 1022) : fmul x (P2 (1023 - p)) = R (V x) p := by
 rw [fmul_fin hx (P2_facts (by omega) (by omega)).1, V_P2 (c := 1074 - p) (by omega) (by omega) (by omega)]
 have := R_scale (V x) p (1074 - p)
 rwa [show p + (1074 - p) = 1074 from by omega] at this
theorem cls {x : Nat} (h : x < 2 * sgnW) (hc : cn x = x) : Nm x ∨ frung x = infR ∨ x = qn := by
 rcases Nat.lt_trichotomy (frung x) infR with q | q | q
 ·exact .inl ⟨h, q, hc⟩
 ·exact .inr (.inl q)
 ·exact .inr (.inr (by rw [← hc]; exact cn_nan q))
theorem read_P2 {e : Nat} (h : 1 ≤ e) (h2 : e ≤ 2046) : double.read (P2 e) = .number false bn ((e : Int) - 1075) := by
 obtain ⟨hn, hf⟩ := P2_facts h h2
 rw [read_fin hn.lt hn.fin, hf]
 have h1 : fneg (P2 e) = false := by
  unfold fneg; apply decide_eq_false; have := hn.fin; rw [hf] at this; have := infR_lt; omega
 have h3 : sig (P2 e) = bn := by
  unfold sig P2
  rw [if_neg (by have := Nat.mul_le_mul_right bn h; omega), Nat.mul_mod_left, Nat.add_zero]
 have h4 : plc (P2 e) = e - 1 := by
  unfold plc P2; rw [Nat.mul_div_cancel _ (by decide)]
 rw [h1, h3, h4]
 congr 1; omega
theorem told_shift (s : Bool) (m k : Nat) (p : Int) : told (some (.number s (m * 2 ^ k) (p - k))) = told (some (.number s m p)) := by
 by_cases h0 : m = 0
 ·subst h0; rw [Nat.zero_mul, told_num0, told_num0]
 ·rw [told_num s h0, told_num s (Nat.mul_ne_zero h0 (Nat.ne_of_gt (Nat.two_pow_pos _)))]
  congr 3
  unfold toX toS
  by_cases h1 : 0 ≤ p - k + 1074
  ·rw [show (-1074 - (p - (k : Int))).toNat = 0 from by omega, show (-1074 - p).toNat = 0 from by omega, Nat.mul_assoc, ← Nat.pow_add]
   congr 3; omega
  ·rw [show (p - (k : Int) + 1074).toNat = 0 from by omega, Nat.pow_zero, Nat.mul_one]
   by_cases h2 : 0 ≤ p + 1074
   ·rw [show (-1074 - p).toNat = 0 from by omega]
    have := rung_scale (m * 2 ^ (p + 1074).toNat) 0 (-1074 - (p - (k : Int))).toNat
    rw [← this, Nat.mul_assoc, ← Nat.pow_add]
    congr 3 <;> omega
   ·rw [show (p + 1074).toNat = 0 from by omega, Nat.pow_zero, Nat.mul_one]
    have := rung_scale m (-1074 - p).toNat k
    rw [← this]
    congr 1; omega
theorem fdiv_P2 {x p : Nat} (h : x < 2 * sgnW) (hc : cn x = x) (hp : p ≤ 1022) : fdiv x (P2 (1023 + p)) = fmul x (P2 (1023 - p)) := by
 unfold fdiv fmul
 rw [read_P2 (by omega) (by omega), read_P2 (by omega) (by omega)]
 rcases cls h hc with hx | hx | rfl
 ·rw [read_fin hx.lt hx.fin]
  simp only [Datum.quotient, Datum.product, Bool.xor_false, show bn ≠ 0 from by decide, if_false]
  have hs := (rung_split (frung x)).2.1
  generalize sig (frung x) = m at *
  have hfb : double.fractionBits = 52 := rfl
  have hlb : Nat.log2 bn = 52 := by decide
  rw [hfb, hlb]
  have hl : Nat.log2 m ≤ 52 := by
   by_cases h0 : m = 0
   ·subst h0; decide
   ·have : Nat.log2 m < 53 := (Nat.log2_lt h0).2 (by unfold bn at hs; omega)
    omega
  obtain ⟨e, he⟩ : ∃ e, 52 + 2 + 52 - Nat.log2 m = 52 + e := ⟨54 - Nat.log2 m, by omega⟩
  rw [he, Nat.shiftLeft_eq, Nat.pow_add, ← bn_eq, Nat.mul_comm bn, ← Nat.mul_assoc, Nat.mul_mod_left, Nat.mul_div_cancel _ (by decide)]
  simp only [bne_self_eq_false, Bool.toNat_false, Nat.add_zero]
  have a1 := told_shift (fneg x) m (e + 1) ((plc (frung x) : Int) - 1074 - p)
  have a2 := told_shift (fneg x) m 52 ((plc (frung x) : Int) - 1074 - p)
  rw [← bn_eq] at a2
  have e1 : (plc (frung x) : Int) - 1074 - (((1023 + p : Nat) : Int) - 1075) - ((52 + e : Nat) : Int) - 1 = (plc (frung x) : Int) - 1074 - p - ((e + 1 : Nat) : Int) := by omega
  have e2 : (plc (frung x) : Int) - 1074 + (((1023 - p : Nat) : Int) - 1075) = (plc (frung x) : Int) - 1074 - p - ((52 : Nat) : Int) := by omega
  rw [e1, e2, a2, ← a1, Nat.pow_succ]
  congr 3
  rw [Nat.mul_comm 2, Nat.mul_assoc]
 ·rw [read_inf h hx]
  simp [Datum.quotient, Datum.product, show bn ≠ 0 from by decide]
 ·rfl
theorem quo_dq {k : Nat} {x x' y y' : Datum} (h : dq x x') (g : dq y y') (h0 : ∀ s e, y ≠ .number s 0 e) : odq (x.quotient k y) (x'.quotient k y') := by
 cases x <;> cases x' <;> simp [dq] at h <;> cases y <;> cases y' <;> simp [dq] at g <;> try (simp [Datum.quotient, odq, dq]; done)
 ·rename_i s m e t n f s2 m2 e2 t2 n2 f2
  obtain ⟨rfl, rfl, h⟩ := h
  obtain ⟨rfl, rfl, g⟩ := g
  have hn0 : m2 ≠ 0 := fun e => h0 _ _ (by rw [e])
  rcases g with g | rfl
  ·exact (hn0 g).elim
  simp only [Datum.quotient, if_neg hn0, odq, dq]
  refine ⟨⟨trivial, trivial, ?_⟩, by simp⟩
  rcases h with rfl | rfl
  ·left; simp
  ·right; rfl
 ·rename_i s t s2 m e t2 n f
  subst h
  obtain ⟨rfl, rfl, g⟩ := g
  have hn0 : m ≠ 0 := fun e => h0 _ _ (by rw [e])
  rcases g with g | rfl
  ·exact (hn0 g).elim
  simp [Datum.quotient, odq, dq]
theorem fdiv_cn {a e : Nat} (ha : a < 2 * sgnW) (h : 1 ≤ e) (h2 : e ≤ 2046) : fdiv (cn a) (P2 e) = fdiv a (P2 e) := by
 unfold fdiv
 rw [read_P2 h h2]
 refine (told_odq (quo_dq (read_cn ha) (dq_refl _) ?_)).symm
 rintro s e' h
 have := congrArg (fun d => match d with | Datum.number _ m _ => m | _ => 1) h
 simp at this
 exact absurd this (by decide)
end W2
namespace W4
open Ieee Go Go.RowKit Go.Proofs Go.Proofs.YtalbgklfhabnkaaGreatDoor Ow Dt Gp W0 M0 M1 M3
theorem _root_.Go.Proofs.YtalbgklfhabnkaaGreatDoor.W0.Fk.fz {w : World} {b : Nat} {X : List Nat} (h : Fk w b X) : Fz w b X := by
 obtain ⟨cs, h1, h2, h3⟩ := h.out
 exact ⟨cs, h1, fun j hj => ⟨cs[j], List.getElem?_eq_getElem (by omega), h3 j _ (List.getElem?_eq_getElem (by omega))⟩⟩
theorem Gr2.fz {b c : Nat} {w w' : World} (h : Gr2 b c w w') {b' : Nat} {X : List Nat} (k : Fz w b' X) (n1 : b' ≠ b) (n2 : b' ≠ c) : Fz w' b' X := by
 obtain ⟨cs, h1, h2⟩ := k.out; exact ⟨cs, h.blk h1 n1 n2, h2⟩
end W4
namespace W5
open Ieee Go Go.RowKit Go.Proofs Go.Proofs.YtalbgklfhabnkaaGreatDoor Ow Dt Gp W0 S4 M0 M1 M3 W4
attribute [local go_sem ↓] Go.wp_at_zero Go.wp_at_succ
theorem fc_one {cs : List Value} {X : List Nat} (h : ∀ j u, cs[j]? = some u → Fc u (nthN X j)) : ∀ u ∈ cs, u.oneCell' = true := fun u hu => by
 obtain ⟨j, hj, rfl⟩ := List.getElem_of_mem hu
 obtain ⟨b, e, _⟩ := h j _ (List.getElem?_eq_getElem hj)
 rw [e]; rfl
end W5
namespace Yh
open Ieee Go Go.RowKit Go.Proofs Go.Proofs.YtalbgklfhabnkaaGreatDoor Ow Dt Gp W0 S4 M0 M1 M3 W4 W5
section
variable {W0 w w' : World} {L : List Ent} {b b' k : Nat} {t : TypeId} {cs : List Value} {X Y : List Nat} {e e' : Ent} {v : Value}
theorem Hp.grW (h : Hp W0 w L) (i : Nat) (hi : L[i]? = some (.whole b X)) (g : Gr b w w') (k : Fk w' b Y) : Hp W0 w' (L.set i (.whole b Y)) :=
 h.turn i hi g.os g.tape g.output g.size (fun j hj hn => g.block j hj hn) (.whole b Y) rfl k
theorem Hp.gr2 {X' Y' : List Nat} (h : Hp W0 w L) (i j : Nat) (hi : L[i]? = some (.row b X)) (hj : L[j]? = some (.row b' Y)) (g : Gr2 b b' w w') (hij : i ≠ j) (k : Fz w' b X') (k' : Fz w' b' Y') : Hp W0 w' ((L.set i (.row b X')).set j (.row b' Y')) := by
  have hli := (List.getElem?_eq_some_iff.1 hi).1
  have hlj := (List.getElem?_eq_some_iff.1 hj).1
  have g1 : W0.heap.size ≤ b := h.geI i hi
  have g2 : W0.heap.size ≤ b' := h.geI j hj
  have mem : ∀ x, x ∈ (L.set i (.row b X')).set j (.row b' Y') → x = .row b X' ∨ x = .row b' Y' ∨ (x ∈ L ∧ x.b ≠ b ∧ x.b ≠ b') := by
    intro x hx
    obtain ⟨m, hm⟩ := List.mem_iff_getElem?.1 hx
    rw [List.getElem?_set] at hm
    split at hm
    · first
      | (split at hm
         · cases hm; exact .inr (.inl rfl)
         · cases hm)
      | (cases hm; exact .inr (.inl rfl))
    · rename_i q
      rw [List.getElem?_set] at hm
      split at hm
      · first
        | (split at hm
           · cases hm; exact .inl rfl
           · cases hm)
        | (cases hm; exact .inl rfl)
      · rename_i q2
        exact .inr (.inr ⟨List.mem_of_getElem? hm, Ne.symm (h.ne i m hi hm q2), Ne.symm (h.ne j m hj hm q)⟩)
  refine ⟨⟨h.bel.out.trans ⟨g.os, g.tape, g.output, g.size, fun m hm => g.block m (Nat.lt_of_lt_of_le hm h.bel.size) (by omega) (by omega)⟩⟩, ?_, ?_, ?_⟩
  · intro x hx
    rcases mem x hx with rfl | rfl | ⟨hx, _⟩
    · exact g1
    · exact g2
    · exact h.ge x hx
  · have : ((L.set i (.row b X')).set j (.row b' Y')).map Ent.b = L.map Ent.b := by
      rw [List.map_set, List.map_set]
      apply List.ext_getElem?
      intro m
      rw [List.getElem?_set]
      split
      · rename_i q; subst q
        rw [List.getElem?_map, hj]; simp [hlj, Ent.b]
      · rw [List.getElem?_set]
        split
        · rename_i q; subst q
          rw [List.getElem?_map, hi]; simp [hli, Ent.b]
        · rfl
    rw [this]; exact h.nd
  · intro x hx
    rcases mem x hx with rfl | rfl | ⟨hx, n1, n2⟩
    · exact k
    · exact k'
    · exact (h.ok x hx).same (g.block x.b (h.lt x hx) n1 n2)
end
end Yh
namespace Yi
open Go
variable {P : Program} {ops : Array Oper} {Q : Exit → Act → World → Prop} {md : Region.Mode} {S : World → Prop}
def NoDefer (ops : Array Oper) : Prop := ∀ o ∈ ops.toList, ∀ c, o.op ≠ .defer c
theorem rows_wide {n l : Nat} {row : String} {args : Array Value} {w : World} {R : Value → World → Prop} (h : Rows P row args w R) : RowsIn (Fence.wide.inRound l) n P row args w R :=
 fun c cs _ => let ⟨v, w', r, s⟩ := h c cs; ⟨v, w', r, stepsIn_wide.2 s⟩
theorem op_round {l n : Nat} {o : Oper} {a : Act} {w : World} {K : Act → World → Prop} (hd : ∀ c, o.op ≠ .defer c) (h : o.wp P a w K Q) : o.wpIn (Fence.wide.inRound l) n P a w K Q := by
 unfold Oper.wpIn
 refine ⟨fun f _ => trivial, ?_⟩
 rw [Oper.semAt_plain _ _ _ hd]
 unfold Oper.wp at h
 generalize (execOp a.eval o).run P w = r at h
 cases r with
 | ok x w' =>
  cases x with
  | enter f args => exact ⟨(fun h => by cases h), CallsIn.inRound l (callsIn_wide.2 h)⟩
  | row row args => exact ⟨(fun h => by cases h), rows_wide h⟩
  | value v => exact h
  | skip => exact h
  | defer d => exact h
  | _ => exact False.elim h
 | halt x w' =>
  cases x with
  | panic v => exact h
  | _ => exact False.elim h
theorem any_round {l n : Nat} (hd : NoDefer ops) (hL : ¬ LetsOut Q) : ∀ (fuel : Nat) (listed : Array Bool) (a : Act) (w : World), wpAny P md ops Q fuel listed a w → wpAnyIn (Fence.wide.inRound l) n P md ops Q fuel listed a w
 | 0, _, _, _, h => h
 | fuel + 1, listed, a, w, h => ⟨h.1, fun i hi => by
  have H := h.2 i hi
  have ih := any_round (l := l) (n := n) hd hL fuel (listed.setIfInBounds i true)
  unfold wpOp at H
  unfold wpOpIn
  cases ho : ops[i]? with
  | none => rw [ho] at H; exact ih _ _ H
  | some o =>
   rw [ho] at H
   have hm : o ∈ ops.toList := by
    have := Array.mem_of_getElem? ho
    exact Array.mem_def.1 this
   dsimp only at H ⊢
   split
   ·rename_i hw
    rw [if_pos hw] at H
    rcases H with H | ⟨_, H⟩
    ·exact Oper.wpIn_mono ih (op_round (hd o hm) H)
    ·exact (hL H).elim
   ·rename_i hw
    rw [if_neg hw] at H
    exact ⟨fun _ _ => trivial, ih _ _ H⟩⟩
theorem held_round {l n id : Nat} {a : Act} {w : World} (hm : P.follows .mixedOrders = true) (hd : NoDefer ops) (hL : ¬ LetsOut Q) (hS : S w.drew)
  (h : S w.drew → wpAnyH P .any ops Q S ops.size (Array.replicate ops.size false) a w.drew) : (Code.region id ops true).wpIn (Fence.wide.inRound l) n P Q a w :=
 wpIn_region_any hm (any_round hd hL _ _ _ _ (wpAny_of_held _ _ _ _ (h hS)))
theorem late_round (s : Nat) {l n id : Nat} {a : Act} {w : World} (hm : P.follows .mixedOrders = true) (hd : NoDefer ops) (hL : ¬ LetsOut Q) (hS : S w.drew)
  (h : S w.drew → I7.walkL P .any ops Q S s ops.size (Array.replicate ops.size false) a w.drew) : (Code.region id ops true).wpIn (Fence.wide.inRound l) n P Q a w :=
 wpIn_region_any hm (any_round hd hL _ _ _ _ (I7.wpAny_of_late _ _ _ _ (h hS (I7.shut_none _))))
section
variable {n : Nat}
theorem yi_op {i : Nat} {o : Oper} {v : Value} {a : Act} (hi : ops[i]? = some o) (hy : YieldsIf P ops S o v a)
  {K : Act → World → Prop} {w : World} (hS : S w) (h : K (a.put o.dst v) w) : wpOpIn Fence.wide n P ops Q i K a w := by
 unfold Go.wpOpIn
 simp only [hi]
 rcases hy with ⟨hw, hv⟩ | ⟨hw, rfl⟩
 ·simp only [hw, if_true, Oper.wpIn, show Fence.wide.round = none from rfl, Oper.semAt_none, hv w hS, Oper.uponIn]; exact ⟨fun _ _ => trivial, h⟩
 ·simp only [hw, Bool.false_eq_true, if_false]; exact ⟨fun _ _ => trivial, h⟩
theorem wpOpIn_putS {j : Nat} {oi oj : Oper} {v : Value} (hj : ops[j]? = some oj) (hap : oi.apart ops oj = true)
  (hsi : ∀ cs b, oi.op ≠ .select cs b) (hsj : ∀ cs b, oj.op ≠ .select cs b)
  (hQ : ∀ c a w, Q (.panic c) (a.put oi.dst v) w → Q (.panic c) a w) {K : Act → World → Prop} {a : Act} {w : World}
  (hy : YieldsIf P ops S oi v a) (h : wpOpIn Fence.wide n P ops Q j K (a.put oi.dst v) w) :
  wpOpIn Fence.wide n P ops Q j (fun a' w' => YieldsIf P ops S oi v a' ∧ K (a'.put oi.dst v) w') a w := by
 obtain ⟨h1, h2, h3⟩ := Oper.apart_spec hap
 have keep : ∀ (a : Act), YieldsIf P ops S oi v a → ∀ u, YieldsIf P ops S oi v (a.put oj.dst u) := fun a hy u =>
  hy.of_same (execOp_put oi hsi a oj.dst u h3) (wanted_put oi a oj.dst u h3)
 have keepD : ∀ d, YieldsIf P ops S oi v { a with defers := d :: a.defers } := fun d => hy.of_same rfl rfl
 unfold wpOpIn at *
 simp only [hj] at *
 rw [wanted_put oj a oi.dst v h1] at h
 split
 ·rename_i hw
  simp only [hw, if_true] at h
  unfold Oper.wpIn at *
  refine ⟨fun _ _ => trivial, ?_⟩
  have h := h.2
  rw [show Fence.wide.round = none from rfl, Oper.semAt_none, execOp_put oj hsj a oi.dst v h1] at h
  rw [show Fence.wide.round = none from rfl, Oper.semAt_none]
  generalize (execOp a.eval oj).run P w = r at *
  cases r with
  | ok x w' =>
   cases x <;> simp only [Oper.uponIn] at h ⊢
   case value u => exact ⟨keep a hy u, by rw [← Act.put_comm a v u h2]; exact h⟩
   case skip => exact ⟨keep a hy _, by rw [← Act.put_comm a v undef h2]; exact h⟩
   case defer d =>
    refine ⟨keep _ (keepD d) _, ?_⟩
    rw [← Act.put_comm _ v undef h2, ← Act.put_defers]
    exact h
   case enter f args =>
    refine ⟨h.1, CallsIn.mono h.2 fun e w'' he => ?_⟩
    cases e with
    | returned u => exact ⟨keep a hy u, by rw [← Act.put_comm a v u h2]; exact he⟩
    | panicked c => exact hQ _ _ _ he
    | outgrown => exact he
   case row row args => exact ⟨h.1, RowsIn.mono h.2 fun u w'' he => ⟨keep a hy u, by rw [← Act.put_comm a v u h2]; exact he⟩⟩
   case round l f tmps assign body =>
    refine ⟨h.1, RoundIn.mono h.2 fun e w'' he => ?_⟩
    cases e with
    | returned u => exact ⟨keep a hy u, by rw [← Act.put_comm a v u h2]; exact he⟩
    | panicked c => exact hQ _ _ _ he
    | outgrown => exact he
  | halt x w' =>
   cases x <;> simp only [Oper.uponIn] at h ⊢
   case panic u => exact hQ _ _ _ h
 ·rename_i hw
  simp only [hw] at h
  exact ⟨fun _ _ => trivial, keep a hy _, by rw [← Act.put_comm a v undef h2]; exact h.2⟩
def wpAnyW (n : Nat) (P : Program) (md : Region.Mode) (ops : Array Oper) (Q : Exit → Act → World → Prop) (S : World → Prop) : Nat → Array Bool → Act → World → Prop
 | 0, listed, a, w => Region.ready md ops listed = [] ∧ Q .normal a w
 | fuel + 1, listed, a, w =>
  (Region.ready md ops listed = [] → Q .normal a w) ∧
  ∀ i ∈ Region.ready md ops listed, wpOpIn Fence.wide n P ops Q i (fun a' w' => S w' ∧ wpAnyW n P md ops Q S fuel (listed.setIfInBounds i true) a' w') a w
theorem wpAny_of_W : ∀ (fuel : Nat) (listed : Array Bool) (a : Act) (w : World), wpAnyW n P md ops Q S fuel listed a w → wpAnyIn Fence.wide n P md ops Q fuel listed a w
 | 0, _, _, _, h => h
 | fuel + 1, _, _, _, h => ⟨h.1, fun i hi => wpOpIn_mono (fun a' w' h' => wpAny_of_W fuel _ a' w' h'.2) (h.2 i hi)⟩
theorem wpAnyW_first {i : Nat} {oi : Oper} {v : Value} (hi : ops[i]? = some oi) (hsel : ∀ (j : Nat) (o : Oper) cs b, ops[j]? = some o → o.op ≠ .select cs b)
  (hQ : ∀ c a w, Q (.panic c) (a.put oi.dst v) w → Q (.panic c) a w) :
  ∀ (fuel : Nat) (listed : Array Bool) (a : Act) (w : World),
   (∀ j oj, ops[j]? = some oj → j ≠ i → listed.getD j true = false → (∀ e ∈ oj.after, Region.binds md e = true → e.on ≠ i) → oi.apart ops oj = true) →
   i ∈ Region.ready md ops listed → YieldsIf P ops S oi v a → S w →
   wpAnyW n P md ops Q S fuel (listed.setIfInBounds i true) (a.put oi.dst v) w → wpAnyW n P md ops Q S (fuel + 1) listed a w := by
 intro fuel
 induction fuel with
 | zero =>
  intro listed a w _ hr hy hS H
  refine ⟨fun h => (by rw [h] at hr; cases hr), fun j hj => ?_⟩
  by_cases hji : j = i
  ·subst hji; exact yi_op hi hy hS ⟨hS, H⟩
  ·have := I7.rdy_mono hj (Ne.symm hji)
   rw [H.1] at this
   cases this
 | succ fuel ih =>
  intro listed a w hfree hr hy hS H
  refine ⟨fun h => (by rw [h] at hr; cases hr), fun j hj => ?_⟩
  by_cases hji : j = i
  ·subst hji; exact yi_op hi hy hS ⟨hS, H⟩
  ·have h1 := H.2 j (I7.rdy_mono hj (Ne.symm hji))
   obtain ⟨hjun, oj, hoj, hall⟩ := mem_ready.1 hj
   have hnot : ∀ e ∈ oj.after, Region.binds md e = true → e.on ≠ i := fun e he hb heq => by
    have h1 := hall e he hb
    have h0 := (mem_ready.1 hr).1
    rw [heq] at h1
    rcases Nat.lt_or_ge i listed.size with h' | h'
    ·simp [h'] at h0 h1; rw [h0] at h1; cases h1
    ·simp [Array.getElem?_eq_none h'] at h1
   have h2 := wpOpIn_putS hoj (hfree j oj hoj hji hjun hnot) (fun cs b => hsel i oi cs b hi) (fun cs b => hsel j oj cs b hoj) hQ hy h1
   have hfree' : ∀ k ok, ops[k]? = some ok → k ≠ i → (listed.setIfInBounds j true).getD k true = false →
     (∀ e ∈ ok.after, Region.binds md e = true → e.on ≠ i) → oi.apart ops ok = true := fun k ok hk hki hun hno => by
    refine hfree k ok hk hki ?_ hno
    by_cases hjk : j = k
    ·subst hjk; exact hjun
    ·rw [I7.getD_ne hjk] at hun; exact hun
   refine wpOpIn_mono (fun a' w' h3 => ⟨h3.2.1, ih (listed.setIfInBounds j true) a' w' hfree' (I7.rdy_mono hr hji) h3.1 h3.2.1 ?_⟩) h2
   rw [Array.setIfInBounds_comm _ _ hji]
   exact h3.2.2
theorem wt {i : Nat} {oi : Oper} {rest : List Oper} {v : Value} {fuel : Nat} {listed : Array Bool} {a : Act} {w : World} (hS : S w)
  (h : wpAnyW n P md ops Q S fuel (listed.setIfInBounds i true) (a.put oi.dst v) w)
  (hi : ops.toList.drop i = oi :: rest := by rfl) (hs : Region.noSelect ops = true := by kernel_rfl) (hf : Region.free md ops listed i = true := by kernel_rfl) (hr : (Region.ready md ops listed).contains i = true := by kernel_rfl)
  (hQ : ∀ c a w, Q (.panic c) (a.put oi.dst v) w → Q (.panic c) a w := by exact fun _ _ _ h => h) (hw : Region.wanted oi (yielded ops a.tmps) = true := by kernel_rfl)
  (hv : ∀ w, S w → (execOp a.eval oi).run P w = .ok (.value v) w := by (intro w hSw; go_simp; try (with_reducible rfl))) : wpAnyW n P md ops Q S (fuel + 1) listed a w :=
 wpAnyW_first (I0.ops_at hi) (Region.noSelect_spec hs) hQ fuel listed a w (Region.free_spec (I0.ops_at hi) hf) (by simpa using hr) (.inl ⟨hw, hv⟩) hS h
theorem wl {i : Nat} {oi : Oper} {rest : List Oper} {v : Value} {fuel : Nat} {listed : Array Bool} {a : Act} {w : World} (hS : S w)
  (hv : ∀ w, S w → (execOp a.eval oi).run P w = .ok (.value v) w)
  (h : wpAnyW n P md ops Q S fuel (listed.setIfInBounds i true) (a.put oi.dst v) w)
  (hi : ops.toList.drop i = oi :: rest := by rfl) (hs : Region.noSelect ops = true := by kernel_rfl) (hf : Region.free md ops listed i = true := by kernel_rfl) (hr : (Region.ready md ops listed).contains i = true := by kernel_rfl)
  (hQ : ∀ c a w, Q (.panic c) (a.put oi.dst v) w → Q (.panic c) a w := by exact fun _ _ _ h => h) (hw : Region.wanted oi (yielded ops a.tmps) = true := by kernel_rfl) : wpAnyW n P md ops Q S (fuel + 1) listed a w :=
 wt hS h hi hs hf hr hQ hw hv
theorem wc {i : Nat} {o : Oper} {rest : List Oper} {fuel : Nat} {listed : Array Bool} {a : Act} {w : World}
  (h : ∀ K' : Act → World → Prop, Shut (∀ a w, S w → (S w → wpAnyW n P md ops Q S fuel (listed.setIfInBounds i true) a w) → K' a w) → o.wpIn Fence.wide n P a w K' Q)
  (hr : Region.ready md ops listed = [i] := by kernel_rfl) (hi : ops.toList.drop i = o :: rest := by rfl)
  (hw : Region.wanted o (yielded ops a.tmps) = true := by kernel_rfl) : wpAnyW n P md ops Q S (fuel + 1) listed a w :=
 ⟨fun h0 => (by rw [hr] at h0; cases h0), fun j hj => by
  rw [hr] at hj
  have hji : j = i := by simpa using hj
  subst hji
  unfold wpOpIn
  rw [I0.ops_at hi]
  dsimp only
  rw [if_pos hw]
  exact h _ (fun a w hS hW => ⟨hS, hW hS⟩)⟩
theorem wdone {listed : Array Bool} {a : Act} {w : World} (hr : Region.ready md ops listed = []) (h : Q .normal a w) : ∀ fuel, wpAnyW n P md ops Q S fuel listed a w
 | 0 => ⟨hr, h⟩
 | _ + 1 => ⟨fun _ => h, by rw [hr]; simp⟩
theorem held_wide {id : Nat} {a : Act} {w : World} (hm : P.follows .mixedOrders = true) (hS : S w.drew)
  (h : S w.drew → wpAnyW n P .any ops Q S ops.size (Array.replicate ops.size false) a w.drew) : (Code.region id ops true).wpIn Fence.wide n P Q a w :=
 wpIn_region_any hm (wpAny_of_W _ _ _ _ (h hS))
end
end Yi
namespace P8
open Ieee Go Go.RowKit Go.Proofs Go.Proofs.YtalbgklfhabnkaaGreatDoor Ow Pl Dp Dt Gp F1 I0 U0 W0 S4 S6 P0 P1 P2 M0 M1 M2 M3 P3 P4 P5 P6 P7 W4
attribute [local go_sem ↓] Go.wp_at_zero Go.wp_at_succ
theorem tab_ne {w : World} {b : Nat} {X : List Nat} (T : Tab w) (h : Fz w b X) (hl : 0 < X.length) : 1 ≠ b := by
 rintro rfl
 have h1 := T.cell 0 (by decide)
 obtain ⟨r, h2, _⟩ := h.at_ hl
 rw [h1] at h2; cases h2
theorem logI_pow {p : Nat} (hp : p ≤ 10) : logI (2 ^ p) = p := by
 have : ∀ p : Fin 11, logI (2 ^ p.val) = (p.val : Int) := by decide
 exact this ⟨p, by omega⟩
def qOf (v : Value) (w : World) : Nat := match v with
 | .pointer (some a) => match w.cell? a with
  | some (.int _ n) => n.toNat
  | _ => 0
 | _ => 0
theorem qOf_blk {w : World} {b : Nat} {t : TypeId} {n : Int} (h : Blk w b t [.int .i64 n]) : qOf (.pointer (some ⟨b, 0, none⟩)) w = n.toNat := by
 unfold qOf; simp only [h.cell (i := 0) rfl]
def stageS (p : Nat) (tab : Nat → Nat × Nat) (st : List Nat × List Nat) (k : Nat) : List Nat × List Nat := loopN (fun q st => stageG opsN (2 ^ q) (2 ^ (p - (q + 1))) (fun k => tab (k * 2 ^ (p - (q + 1)))) st) k st
theorem stageS_len {p : Nat} (tab : Nat → Nat × Nat) {st : List Nat × List Nat} (h1 : st.1.length = 2 ^ p) (h2 : st.2.length = 2 ^ p) {k : Nat} (hk : k ≤ p) : (stageS p tab st k).1.length = 2 ^ p ∧ (stageS p tab st k).2.length = 2 ^ p :=
 stages_len opsN (fun q k => tab (k * 2 ^ (p - (q + 1)))) h1 h2 hk
theorem stageS_succ (p : Nat) (tab : Nat → Nat × Nat) (st : List Nat × List Nat) (k : Nat) : stageS p tab st (k + 1) = stageG opsN (2 ^ k) (2 ^ (p - (k + 1))) (fun j => tab (j * 2 ^ (p - (k + 1)))) (stageS p tab st k) := rfl
theorem _root_.Go.Proofs.YtalbgklfhabnkaaGreatDoor.W4.Gr2.fk {b c : Nat} {w w' : World} (h : Gr2 b c w w') {b' : Nat} {X : List Nat} (k : Fk w b' X) (n1 : b' ≠ b) (n2 : b' ≠ c) : Fk w' b' X := by
 obtain ⟨cs, h1, h2⟩ := k.out; exact ⟨cs, h.blk h1 n1 n2, h2⟩
theorem nth_range {m k : Nat} (f : Nat → Nat) (h : k < m) : nthN ((List.range m).map f) k = f k := nthG_map opsN f h
def mergesS (half : Nat) (tw : Nat → Nat × Nat) (st : List Nat × List Nat) (j : Nat) : List Nat × List Nat := loopN (fun i st => mergeG opsN (i * (2 * half)) half tw st) j st
theorem mergesS_len {half : Nat} {tw : Nat → Nat × Nat} {st : List Nat × List Nat} (j : Nat) : (mergesS half tw st j).1.length = st.1.length ∧ (mergesS half tw st j).2.length = st.2.length := by
 refine loopN_inv (I := fun _ (s : List Nat × List Nat) => s.1.length = st.1.length ∧ s.2.length = st.2.length) j ⟨rfl, rfl⟩ ?_
 intro k s _ h
 have := mergeS_len (k * (2 * half)) half tw s half
 exact ⟨this.1.trans h.1, this.2.trans h.2⟩
theorem mergesS_succ (half : Nat) (tw : Nat → Nat × Nat) (st : List Nat × List Nat) (j : Nat) : mergesS half tw st (j + 1) = mergeG opsN (j * (2 * half)) half tw (mergesS half tw st j) := rfl
theorem swapG_len (od X : List Nat) : (swapG opsN od X).length = X.length := swapK_len od X od.length
theorem dInto {p N c c' b b' : Nat} {X Y : List Nat} (W0 : World) (T : Tab W0) (KX : Fz W0 b X) (KY : Fz W0 b' Y) (hb : b ≠ b') (hN : N = 2 ^ p) (hX : X.length = N) (hY : Y.length = N) (hp7 : p ≤ 7) (hc : N ≤ c) (hc' : N ≤ c') (hC : c ≤ 9223372036854775807) (hC' : c' ≤ 9223372036854775807) :
  Calls Tryz.prog 80 #[.agg #[.slice (some ⟨b, 0, none⟩) N c, .slice (some ⟨b', 0, none⟩) N c']] W0
   fun e w' => e = .returned (.int .i64 0) ∧ Fz w' b (intoG opsN (bitsG p) p (tabW p) (X, Y)).1 ∧ Fz w' b' (intoG opsN (bitsG p) p (tabW p) (X, Y)).2 ∧ Gr2 b b' W0 w' := by
 have hpos : 0 < N := by rw [hN]; exact Nat.two_pow_pos p
 have h128 : N ≤ 128 := by rw [hN]; exact Nat.le_trans (Nat.pow_le_pow_right (by decide) hp7) (by decide)
 have b2 := tab_ne T KX (by omega)
 have b2' := tab_ne T KY (by omega)
 have lp : logI N = p := by rw [hN]; exact logI_pow (by omega)
 have RI : Ho (∀ w, Bel W0 w → Calls Tryz.prog 108 #[.agg #[.slice (some ⟨b, 0, none⟩) N c, .slice (some ⟨b', 0, none⟩) N c']] w (fun e w' => e = .returned (.bool true) ∧ Bel w w')) := ⟨fun w g => by
  have h := dRightV (n := N) (m := N) (c := c) (c' := c') (A := some ⟨b, 0, none⟩) (B := some ⟨b', 0, none⟩) w (T.bel g) (by omega) (by omega)
  rw [lp, show decide (N = N ∧ (0 : Int) ≤ (p : Int)) = true from by simp] at h; exact h⟩
 have LG : Ho (∀ w, Bel W0 w → Calls Tryz.prog 109 #[.int .i64 (N : Int)] w fun e w' => e = .returned (.int .i64 (p : Int)) ∧ w = w') := ⟨fun w g => by
  have h := dLog (n := N) (fn := 109) rfl w (by omega) (T.bel g)
  rw [lp] at h; exact h⟩
 have BI : Ho (∀ w, Calls Tryz.prog 110 #[.int .i64 (p : Int)] w fun e w' => ∃ b, e = .returned (.slice (some ⟨b, 0, none⟩) N N) ∧ Blk w' b 3 (insN (bitsG p)) ∧ w.heap.size ≤ b ∧ Bel w w') := ⟨fun w => by
  have h := dBits (p := p) w rfl hp7
  rw [← hN] at h; exact h⟩
 have TT := Ho.mk T
 have K1 := Ho.mk KX
 have K2 := Ho.mk KY
 have HX := Ho.mk hX
 have HY := Ho.mk hY
 have lb := KX.lt
 have lb' := KY.lt
 have IV := Ho.mk (inv_bits hp7)
 have KV := Ho.mk (Blk.new W0 [.slice (some ⟨b, 0, none⟩) N c, .slice (some ⟨b', 0, none⟩) N c'] 46)
 have g0 := Ho.mk ((Bel.refl W0).alloc (.cells #[.slice (some ⟨b, 0, none⟩) N c, .slice (some ⟨b', 0, none⟩) N c'] 46))
 have HN := Ho.mk hN
 rw [← hN] at IV
 clear KX KY T hX hY lp hN
 go_enter Tryz.func80, Tryz.ntmps80
 go_upto_region 1 with fail
 have hs := Ho.mk (show (W0.alloc (.cells #[.slice (some ⟨b, 0, none⟩) N c, .slice (some ⟨b', 0, none⟩) N c'] 46)).heap.size = W0.heap.size + 1 from World.size_alloc _ _)
 generalize W0.alloc (.cells #[.slice (some ⟨b, 0, none⟩) N c, .slice (some ⟨b', 0, none⟩) N c'] 46) = W at *
 obtain ⟨y0, y1⟩ := KV.out.c2
 go_wp2_with fail
 (with_reducible refine (RI.out _ g0.out).mono ?_); rintro e w1 ⟨rfl, b1⟩
 have KV := Ho.mk (KV.out.bel b1)
 have g1 := Ho.mk (g0.out.trans b1)
 have l1 : W0.heap.size < w1.heap.size := by have := b1.size; have := hs.out; omega
 clear y0 y1 b1 hs g0 RI
 obtain ⟨y0, y1⟩ := KV.out.c2
 go_wp2_with fail
 (with_reducible refine (LG.out _ g1.out).mono ?_); rintro e w1 ⟨rfl, rfl⟩
 go_upto_region 4 with fail
 have KP := Ho.mk (Blk.new w1 [.int .i64 (p : Int)] 3)
 have KV := Ho.mk (KV.out.old (.cells #[.int .i64 (p : Int)] 3))
 have g2 := Ho.mk (g1.out.alloc (.cells #[.int .i64 (p : Int)] 3))
 have l2 : w1.heap.size < (w1.alloc (.cells #[.int .i64 (p : Int)] 3)).heap.size := by rw [World.size_alloc]; exact Nat.lt_succ_self _
 clear y0 y1 g1 LG
 obtain ⟨bp, hbp⟩ : ∃ bp, bp = w1.heap.size := ⟨_, rfl⟩
 rw [← hbp] at KP l2 l1 ⊢
 clear hbp
 generalize w1.alloc (.cells #[.int .i64 (p : Int)] 3) = W2 at *
 have y2 := KP.out.cell (i := 0) rfl
 go_wp2_with fail
 (with_reducible refine (BI.out _).mono ?_); rintro e w3 ⟨bo, rfl, KO, l3, b3⟩
 have KV := Ho.mk (KV.out.bel b3)
 have KP := Ho.mk (KP.out.bel b3)
 have g3 := Ho.mk (g2.out.trans b3)
 have l4 : bp < bo := Nat.lt_of_lt_of_le l2 l3
 have KO := Ho.mk KO
 clear y2 b3 l3 l2 g2 BI
 have y0 := KV.out.cell (i := 0) rfl
 have SW1 := Ho.mk (dSwap (c := c) (co := N) (N := N) w3 (K1.out.bel g3.out) KO.out HX.out IV.out.len IV.out.lt (by omega) (by omega))
 go_wp2_with fail
 (with_reducible refine SW1.out.mono ?_); rintro e w4 ⟨rfl, f4, G4⟩
 have KV := Ho.mk (G4.blk KV.out (by omega))
 have KP := Ho.mk (G4.blk KP.out (by omega))
 have KO := Ho.mk (G4.blk KO.out (by omega))
 have F2 := Ho.mk (gr_fz G4 (K2.out.bel g3.out) (Ne.symm hb))
 have F1 := Ho.mk f4
 have G4 := Ho.mk ((gr2_bel g3.out b b').trans (Gr2.of1 G4))
 clear y0 f4 g3 SW1
 have y1 := KV.out.cell (i := 1) rfl
 have SW2 := Ho.mk (dSwap (c := c') (co := N) (N := N) w4 F2.out KO.out HY.out IV.out.len IV.out.lt (by omega) (by omega))
 go_wp2_with fail
 (with_reducible refine SW2.out.mono ?_); rintro e w5 ⟨rfl, f5, G5⟩
 have KV := Ho.mk (G5.blk KV.out (by omega))
 have KP := Ho.mk (G5.blk KP.out (by omega))
 have F1 := Ho.mk (gr_fz G5 F1.out hb)
 have F2 := Ho.mk f5
 have G5 := Ho.mk (G4.out.trans (Gr2.of2 G5))
 clear y1 f5 G4 SW2 KO
 go_upto_region 7 with fail
 have y2 := KP.out.cell (i := 0) rfl
 have hmi : IntKind.i64.wrap ((IntKind.i64.wrap (2 ^ p)).tdiv 2) = ((N / 2 : Nat) : Int) := by
  have e : ((2 : Int) ^ p) = ((N : Nat) : Int) := by rw [HN.out]; push_cast; rfl
  rw [e, show IntKind.i64.wrap (N : Int) = (N : Int) from by rw [IntKind.wrap_i64]; omega, Int.tdiv_eq_ediv_of_nonneg (by omega), IntKind.wrap_i64]; omega
 have l5 := G5.out.size
 have TB := Ho.mk (fun w (g : Bel w5 w) => dTable (q := p) (m := N / 2) w ((G5.out.tab TT.out b2 b2').bel g) rfl (by omega) hmi (by omega))
 clear hmi
 go_cut [5] from 26 to 30 (fun s5 wy => ∃ (bW bC bS : Nat), s5 = .pointer (some ⟨bW, 0, none⟩) ∧ Ho (Blk wy bW 46 [.slice (some ⟨bC, 0, none⟩) (N / 2) (N / 2), .slice (some ⟨bS, 0, none⟩) (N / 2) (N / 2)]) ∧ Ho (Fk wy bC ((List.range (N / 2)).map fun k => (tabW p k).1)) ∧ Ho (Fk wy bS ((List.range (N / 2)).map fun k => (tabW p k).2)) ∧ Ho (Bel w5 wy) ∧ Ho (W0.heap.size ≤ bW) ∧ Ho (W0.heap.size ≤ bC) ∧ Ho (W0.heap.size ≤ bS))
 case first =>
  refine wp_region_held_drew (S := fun w' => Bel w5 w') (by kernel_rfl) (Bel.refl _).drew (fun hHeld => ?_)
  (try dsimp only at hHeld)
  generalize w5.drew = wx at *
  have n0 := trivial
  repeat' (first
   |
    clear t4
    go_simp
    go_at_call 38
    (with_reducible refine (TB.out _ hHeld).mono ?_); rintro e wx ⟨bC, bS, rfl, fC, fS, lC, lS, bwx⟩
    have FC := Ho.mk fC
    have FS := Ho.mk fS
    have lt_bC := fC.lt
    have lt_bS := fS.lt
    have lwC := hHeld.size
    clear fC fS
    try go_wp2_with fail
    refine hK.out _ _ (Bel.trans hHeld bwx) (fun hHeld => ?_)
    clear hK K
    try have KW := Ho.mk (KW.out.bel bwx)
    try have lt_bW := Nat.lt_of_lt_of_le lt_bW bwx.size
    clear bwx
    try simp only [Act.put, Ow.zS, Ow.zC, Ow.zD]
   |
    clear t5
    go_simp
    have le_bW := hHeld.size
    refine hK.out _ _ (Bel.alloc hHeld _) (fun hHeld => ?_)
    clear hK K
    have KW := Ho.mk (Blk.new wx [.slice none 0 0, .slice none 0 0] 46)
    have ga := (Bel.refl wx).alloc (.cells #[.slice none 0 0, .slice none 0 0] 46)
    try have FC := Ho.mk (FC.out.bel ga)
    try have FS := Ho.mk (FS.out.bel ga)
    try have lt_bC := Nat.lt_of_lt_of_le lt_bC ga.size
    try have lt_bS := Nat.lt_of_lt_of_le lt_bS ga.size
    clear ga
    have lt_bW : wx.heap.size < (World.alloc wx (.cells #[.slice none 0 0, .slice none 0 0] 46)).heap.size := by rw [World.size_alloc]; exact Nat.lt_succ_self _
    try have ne_bC_bW : bC ≠ wx.heap.size := by omega
    try have ne_bS_bW : bS ≠ wx.heap.size := by omega
    generalize wx.heap.size = bW at *
    generalize World.alloc wx (.cells #[.slice none 0 0, .slice none 0 0] 46) = wx at *
    try simp only [Act.put, Ow.zS, Ow.zC, Ow.zD]
   |
    clear t6
    go_simp
    have FC := Ho.mk ((FC.out.far (p := ⟨bW, 0, none⟩) (by dsimp only; omega) (.slice (some ⟨bC, 0, none⟩) (N / 2) (N / 2))).far (p := ⟨bW, 1, none⟩) (by dsimp only; omega) (.slice (some ⟨bS, 0, none⟩) (N / 2) (N / 2)))
    have FS := Ho.mk ((FS.out.far (p := ⟨bW, 0, none⟩) (by dsimp only; omega) (.slice (some ⟨bC, 0, none⟩) (N / 2) (N / 2))).far (p := ⟨bW, 1, none⟩) (by dsimp only; omega) (.slice (some ⟨bS, 0, none⟩) (N / 2) (N / 2)))
    have KW := Ho.mk ((KW.out.set 0 (.slice (some ⟨bC, 0, none⟩) (N / 2) (N / 2))).set 1 (.slice (some ⟨bS, 0, none⟩) (N / 2) (N / 2)))
    simp only [List.set_cons_zero, List.set_cons_succ] at KW
    refine hK.out _ _ ⟨((hHeld.out.setCell (p := ⟨bW, 0, none⟩) (by dsimp only; omega) (.slice (some ⟨bC, 0, none⟩) (N / 2) (N / 2))).setCell (p := ⟨bW, 1, none⟩) (by dsimp only; omega) (.slice (some ⟨bS, 0, none⟩) (N / 2) (N / 2)))⟩ (fun hHeld => ?_)
    clear hK K y0 x0 y1 x1
    have lt_bC : bC < (World.setCell (World.setCell wx ⟨bW, 0, none⟩ (.slice (some ⟨bC, 0, none⟩) (N / 2) (N / 2))) ⟨bW, 1, none⟩ (.slice (some ⟨bS, 0, none⟩) (N / 2) (N / 2))).heap.size := by simpa [World.setCell] using lt_bC
    have lt_bS : bS < (World.setCell (World.setCell wx ⟨bW, 0, none⟩ (.slice (some ⟨bC, 0, none⟩) (N / 2) (N / 2))) ⟨bW, 1, none⟩ (.slice (some ⟨bS, 0, none⟩) (N / 2) (N / 2))).heap.size := by simpa [World.setCell] using lt_bS
    have lt_bW : bW < (World.setCell (World.setCell wx ⟨bW, 0, none⟩ (.slice (some ⟨bC, 0, none⟩) (N / 2) (N / 2))) ⟨bW, 1, none⟩ (.slice (some ⟨bS, 0, none⟩) (N / 2) (N / 2))).heap.size := by simpa [World.setCell] using lt_bW
    generalize World.setCell (World.setCell wx ⟨bW, 0, none⟩ (.slice (some ⟨bC, 0, none⟩) (N / 2) (N / 2))) ⟨bW, 1, none⟩ (.slice (some ⟨bS, 0, none⟩) (N / 2) (N / 2)) = wx at *
    try simp only [Act.put, Ow.zS, Ow.zC, Ow.zD]
   |
    clear n4
    refine wpAnyH_done (by kernel_rfl) ?_ _
   |
    clear n3
    obtain ⟨y0, y1⟩ := KW.out.c2
    have x0 := KW.out.free 0
    have x1 := KW.out.free 1
    refine rc (i := 6) (fun K hK => have t6 := trivial; have n4 := trivial; ?_)
   |
    clear n1
    refine rc (i := 5) (fun K hK => have t5 := trivial; have n3 := trivial; ?_)
   |
    clear n2
    refine rc (i := 4) (fun K hK => have t4 := trivial; have n3 := trivial; ?_)
   |
    clear n0
    refine rl (i := 0) (v := ?_) hHeld (fun w hSw => ?_) ?_
    rotate_left
    ·(have z0 := hSw.cell y2; go_simp; try (with_reducible rfl))
    refine rl (i := 1) (v := ?_) hHeld (fun w hSw => ?_) ?_
    rotate_left
    ·(have z0 := hSw.cell y2; go_simp; try (with_reducible rfl))
    refine rt (i := 2) hHeld ?_
    refine rt (i := 3) hHeld ?_
    try simp only [Act.put, Ow.zS, Ow.zC, Ow.zD]
    refine I6.rc2 (i := 4) (j := 5) (fun K hK => have t4 := trivial; have n1 := trivial; ?_) (fun K hK => have t5 := trivial; have n2 := trivial; ?_))
  all_goals
   go_wp2_with fail
   go_meet
   exact ⟨bW, bC, bS, rfl, KW, FC, FS, ⟨hHeld⟩, ⟨by omega⟩, ⟨by omega⟩, ⟨by omega⟩⟩
 case rest =>
  obtain ⟨bW, bC, bS, rfl, KW, FC, FS, HB, LW, LC, LS⟩ := hcut
  have KV := Ho.mk (KV.out.bel HB.out)
  have KP := Ho.mk (KP.out.bel HB.out)
  have F1 := Ho.mk (F1.out.bel HB.out)
  have F2 := Ho.mk (F2.out.bel HB.out)
  have G6 := Ho.mk (G5.out.tb HB.out)
  clear y2 TB HB G5
  obtain ⟨wo, rfl⟩ : ∃ wo : World, wo = wc := ⟨_, rfl⟩
  have FCl := FC.out.lt
  have FSl := FS.out.lt
  have KWl := KW.out.lt
  have KPl := KP.out.lt
  have KVl := KV.out.lt
  have lwo := G6.out.size
  have LL := Ho.mk (And.intro LW.out (And.intro LC.out (And.intro LS.out (And.intro FCl (And.intro FSl (And.intro KWl (And.intro KPl (And.intro KVl lwo))))))))
  have LB := Ho.mk (And.intro l1 (And.intro lb lb'))
  clear LW LC LS FCl FSl KWl KPl KVl lwo l1 lb lb' l4 l5
  go_wp2_with fail
  go_loopw [6] (fun v wr => ∃ (q bq : Nat) (z : Int), q ≤ p ∧ v = .pointer (some ⟨bq, 0, none⟩) ∧ Ho (z = q + 1) ∧ Ho (wo.heap.size ≤ bq) ∧ Ho (Blk wr bq 3 [.int .i64 z]) ∧ Ho (Fz wr b (stageS p (tabW p) (swapG opsN (bitsG p) X, swapG opsN (bitsG p) Y) q).1) ∧ Ho (Fz wr b' (stageS p (tabW p) (swapG opsN (bitsG p) X, swapG opsN (bitsG p) Y) q).2) ∧ Ho (Gr2 b b' wo wr)) (fun v w => p + 2 - qOf v w)
  case atStart =>
   have a1 := (Bel.refl wo).alloc (.cells #[.int .i64 1] 3)
   exact ⟨0, wo.heap.size, 1, Nat.zero_le _, rfl, ⟨by simp⟩, ⟨Nat.le_refl _⟩, ⟨Blk.new wo [.int .i64 1] 3⟩, ⟨F1.out.bel a1⟩, ⟨F2.out.bel a1⟩, ⟨gr2_bel a1 b b'⟩⟩
  case round =>
   obtain ⟨wq, rfl⟩ : ∃ wq : World, wq = wr := ⟨_, rfl⟩
   obtain ⟨q, bq, z, hq, rfl, HZ, HQ, KQ, FX, FY, HG⟩ := hrel
   have KP1 := Ho.mk (HG.out.blk KP.out (by have := LB.out; omega) (by have := LB.out; omega))
   have y2 := KP1.out.cell (i := 0) rfl
   have y3 := KQ.out.cell (i := 0) rfl
   rcases Nat.lt_or_ge q p with hlt | hge
   ·have hzp : z ≤ (p : Int) := by have := HZ.out; omega
    have hz1 : 1 ≤ z := by have := HZ.out; omega
    have KV1 := Ho.mk (HG.out.blk KV.out (by have := LB.out; omega) (by have := LB.out; omega))
    obtain ⟨st, hst⟩ : ∃ st, st = stageS p (tabW p) (swapG opsN (bitsG p) X, swapG opsN (bitsG p) Y) q := ⟨_, rfl⟩
    have HST := Ho.mk hst
    rw [← hst] at FX FY
    have hl := stageS_len (p := p) (tabW p) (st := (swapG opsN (bitsG p) X, swapG opsN (bitsG p) Y)) (by rw [swapG_len, HX.out, HN.out]) (by rw [swapG_len, HY.out, HN.out]) (k := q) (by omega)
    rw [← hst, ← HN.out] at hl
    have HSL := Ho.mk hl
    clear hst hl
    obtain ⟨half, hhalf⟩ : ∃ half, half = 2 ^ q := ⟨_, rfl⟩
    obtain ⟨many, hmany⟩ : ∃ many, many = 2 ^ (p - (q + 1)) := ⟨_, rfl⟩
    have hmN : many * (2 * half) = N := by rw [hmany, hhalf, HN.out]; exact pow_split hlt
    have hh0 : 0 < half := by rw [hhalf]; exact Nat.two_pow_pos q
    have HH := Ho.mk (And.intro hhalf hmany)
    have HMN := Ho.mk hmN
    clear hhalf hmany hmN
    have h2z : (2 : Int) ^ z.toNat = ((2 * half : Nat) : Int) := by
     rw [HH.out.1, show z.toNat = q + 1 by have := HZ.out; omega, Int.pow_succ]; push_cast; omega
    have hhN : 2 * half ≤ N := by
     have h1 : 0 < many := by rw [HH.out.2]; exact Nat.two_pow_pos _
     have := HMN.out
     have h2 : 1 * (2 * half) ≤ many * (2 * half) := Nat.mul_le_mul_right _ h1
     omega
    obtain ⟨H2, hH2⟩ : ∃ H2 : Nat, H2 = 2 * half := ⟨_, rfl⟩
    rw [← hH2] at h2z
    have HH2 := Ho.mk hH2
    clear hH2
    have hw1 : IntKind.i64.wrap ((2 : Int) ^ z.toNat) = (H2 : Int) := by rw [h2z, IntKind.wrap_i64]; have := HH2.out; omega
    have hw2 : wrap64 ((2 : Int) ^ z.toNat) = (H2 : Int) := by rw [h2z]; unfold wrap64; have := HH2.out; omega
    clear h2z
    go_wp2_with fail
    go_loopw [8] (fun v wr => ∃ (j F : Nat), j ≤ many ∧ v = .int .i64 (F : Int) ∧ Ho (F = j * (2 * half)) ∧ Ho (Fz wr b (mergesS half (fun k => tabW p (k * 2 ^ (p - (q + 1)))) st j).1) ∧ Ho (Fz wr b' (mergesS half (fun k => tabW p (k * 2 ^ (p - (q + 1)))) st j).2) ∧ Ho (Gr2 b b' wq wr)) (fun v _ => N - (intOf v).toNat)
    case atStart => exact ⟨0, 0, Nat.zero_le _, rfl, ⟨by simp⟩, FX, FY, ⟨Gr2.refl _ _ _⟩⟩
    case round =>
     obtain ⟨j, F, hj, rfl, HF, GX, GY, H1⟩ := hrel
     have lB := LB.out
     have lq := HQ.out
     have lLL := LL.out
     have KV2 := Ho.mk (H1.out.blk KV1.out (by omega) (by omega))
     have KQ2 := Ho.mk (H1.out.blk KQ.out (by omega) (by omega))
     have KP2 := Ho.mk (H1.out.blk KP1.out (by omega) (by omega))
     obtain ⟨v0, v1⟩ := KV2.out.c2
     have q0 := KQ2.out.cell (i := 0) rfl
     have ML := Ho.mk (mergesS_len (half := half) (tw := fun k => tabW p (k * 2 ^ (p - (q + 1)))) (st := st) j)
     rcases Nat.lt_or_ge j many with jlt | jge
     ·have hFN : F + H2 ≤ N := by
       have h1 : (j + 1) * (2 * half) ≤ many * (2 * half) := Nat.mul_le_mul_right _ jlt
       have := HMN.out
       have := HF.out
       have := HH2.out
       rw [Nat.succ_mul] at h1; omega
      have hH20 : 0 < H2 := by have := HH2.out; omega
      obtain ⟨E, hE⟩ : ∃ E : Nat, E = F + H2 := ⟨_, rfl⟩
      have hEN : E ≤ N := by omega
      have hFE : F < E := by omega
      have hwE : IntKind.i64.wrap ((F : Int) + (H2 : Int)) = (E : Int) := by rw [hE, IntKind.wrap_i64]; omega
      have HE := Ho.mk hE
      have PT := Ho.mk (fun w => dPart (b := b) (b' := b') (o := 0) (n := N) (m := N) (f := F) (t := E) (c := c) (c' := c') w hFE (by omega) (by omega) hc hc' hC hC')
      have MG := Ho.mk (fun w (g : Bel wr w) => dMerge (half := half) (f := F) (c := c - F) (c' := c' - F) (b := b) (b' := b') (bw := bW) (bp := bp) (bq := bq) (N := N) (tw := fun k => tabW p (k * 2 ^ (p - (q + 1)))) w (GX.out.bel g) (GY.out.bel g) hb (by rw [ML.out.1]; exact HSL.out.1) (by rw [ML.out.2]; exact HSL.out.2)
       (by have := HH2.out; omega) hh0 (by omega) (by have := HH2.out; omega) (by have := HH2.out; omega) (by omega) (by omega)
       (fun k k0 kh w' gw => by
        have gg : Gr2 b b' wq w' := (H1.out.tb g).trans gw
        have gh : Gr2 b b' wo w' := HG.out.trans gg
        have hi : k * 2 ^ (p - (q + 1)) < N / 2 := by
         have h1 : k * 2 ^ (p - (q + 1)) < half * 2 ^ (p - (q + 1)) := Nat.mul_lt_mul_of_pos_right kh (Nat.two_pow_pos _)
         have h2 : many * (2 * half) = 2 * (half * 2 ^ (p - (q + 1))) := by rw [HH.out.2, Nat.mul_comm (2 ^ (p - (q + 1))), Nat.mul_assoc]
         have := HMN.out
         omega
        have hz : ((q + 1 : Nat) : Int) = z := by have := HZ.out; omega
        have h := dAt (k := k) (p := p) (q := q + 1) (m := N / 2) (bw := bW) (bp := bp) (bq := bq) w' (gh.blk KW.out (by omega) (by omega)) (gh.blk KP.out (by omega) (by omega)) (by rw [hz]; exact gg.blk KQ.out (by omega) (by omega))
         (gh.fk FC.out (by omega) (by omega)) (gh.fk FS.out (by omega) (by omega)) (by omega) hlt (by have := HH2.out; omega) hi (by simp) (by simp) (by omega)
        rw [nth_range _ hi, nth_range _ hi] at h
        exact h))
      have h2h : 2 * half = E - F := by have := HH2.out; omega
      rw [h2h] at MG
      simp only [Nat.zero_add] at PT
      clear hE h2h lB lq lLL
      go_upto_region 15 with fail
      refine wp_region_held_drew (S := fun w' => Blk w' W0.heap.size 46 [.slice (some ⟨b, 0, none⟩) N c, .slice (some ⟨b', 0, none⟩) N c'] ∧ Blk w' bq 3 [.int .i64 z]) (by kernel_rfl) ⟨KV2.out.bel (Bel.refl _).drew, KQ2.out.bel (Bel.refl _).drew⟩ (fun hHeld => ?_)
      (try dsimp only at hHeld)
      refine rl (i := 0) (v := ?_) hHeld (fun w hSw => ?_) ?_
      rotate_left
      ·(have z0 := hSw.1.cell (i := 0) rfl; have z1 := hSw.1.cell (i := 1) rfl; have z2 := hSw.2.cell (i := 0) rfl; go_simp; try (with_reducible rfl))
      refine rt (i := 1) hHeld ?_
      refine rt (i := 2) hHeld ?_
      refine rl (i := 3) (v := ?_) hHeld (fun w hSw => ?_) ?_
      rotate_left
      ·(have z0 := hSw.1.cell (i := 0) rfl; have z1 := hSw.1.cell (i := 1) rfl; have z2 := hSw.2.cell (i := 0) rfl; go_simp; try (with_reducible rfl))
      refine rt (i := 4) hHeld ?_
      refine rt (i := 5) hHeld ?_
      refine rt (i := 7) hHeld ?_
      try simp only [Act.put, Ow.zS, Ow.zC, Ow.zD]
      refine rc (i := 6) (fun K hK => ?_)
      go_simp
      go_at_call 114
      (with_reducible refine (PT.out _).mono ?_); rintro e w8 ⟨rfl, b8⟩
      try go_wp2_with fail
      refine hK.out _ _ ⟨hHeld.1.bel b8, hHeld.2.bel b8⟩ (fun hHeld => ?_)
      clear hK K
      try simp only [Act.put, Ow.zS, Ow.zC, Ow.zD]
      refine rc (i := 8) (fun K hK => ?_)
      go_simp
      go_at_call 113
      (with_reducible refine (MG.out _ ((Bel.refl _).drew.trans b8)).mono ?_); rintro e w9 ⟨rfl, x9, y9, g9⟩
      try go_wp2_with fail
      have GX9 := Ho.mk x9
      have GY9 := Ho.mk y9
      have gG := (gr2_bel ((Bel.refl wr).drew.trans b8) b b').trans g9
      clear x9 y9
      refine hK.out _ _ ⟨g9.blk hHeld.1 (by have := LB.out; omega) (by have := LB.out; omega), g9.blk hHeld.2 (by have := LB.out; have := HQ.out; have := LL.out; omega) (by have := LB.out; have := HQ.out; have := LL.out; omega)⟩ (fun hHeld => ?_)
      clear hK K
      try simp only [Act.put, Ow.zS, Ow.zC, Ow.zD]
      refine wpAnyH_done (by kernel_rfl) ?_ _
      clear hHeld
      have q0 := (gG.blk KQ2.out (by have := LB.out; have := HQ.out; have := LL.out; omega) (by have := LB.out; have := HQ.out; have := LL.out; omega)).cell (i := 0) rfl
      have GG := Ho.mk ((gr2_bel ((Bel.refl wr).drew.trans b8) b b').trans g9)
      clear g9 b8
      go_wp2
      go_roundw
      case rel =>
       refine ⟨j + 1, F + H2, by omega, by rw [HE.out], ⟨?_⟩, ⟨?_⟩, ⟨?_⟩, ⟨H1.out.trans GG.out⟩⟩
       ·have := HF.out; have := HH2.out; rw [Nat.succ_mul]; omega
       ·rw [mergesS_succ, ← HF.out]; exact GX9.out
       ·rw [mergesS_succ, ← HF.out]; exact GY9.out
      case measure => simp [intOf]; omega
     ·obtain rfl : j = many := by omega
      have e9 : stageS p (tabW p) (swapG opsN (bitsG p) X, swapG opsN (bitsG p) Y) (q + 1) = mergesS half (fun k => tabW p (k * 2 ^ (p - (q + 1)))) st j := by
       rw [stageS_succ, ← HST.out, ← HH.out.1, ← HH.out.2]; rfl
      have HE9 := Ho.mk e9
      have hFN : ¬ F < N := by have := HF.out; have := HMN.out; omega
      have GZ := Ho.mk (HG.out.trans H1.out)
      have lz := GZ.out.size
      clear e9 KV1 KP1
      go_wp2_with fail
      go_roundw
      case rel =>
       have aa := (Bel.refl wr).alloc (.cells #[.int .i64 (z + 1)] 3)
       exact ⟨q + 1, wr.heap.size, z + 1, by omega, rfl, ⟨by have := HZ.out; omega⟩, ⟨lz⟩, ⟨Blk.new wr [.int .i64 (z + 1)] 3⟩, ⟨by rw [HE9.out]; exact GX.out.bel aa⟩, ⟨by rw [HE9.out]; exact GY.out.bel aa⟩, ⟨GZ.out.tb aa⟩⟩
      case measure =>
       rw [qOf_blk (Blk.new wr [.int .i64 (z + 1)] 3), qOf_blk KQ.out]
       have := HZ.out
       omega
   ·obtain rfl : q = p := by omega
    have hzp : (q : Int) < z := by have := HZ.out; omega
    go_wp2
    go_ret
    exact ⟨rfl, FX.out, FY.out, G6.out.trans HG.out⟩
end P8
namespace Pc
open Ieee Go Go.RowKit Go.Proofs Go.Proofs.YtalbgklfhabnkaaGreatDoor Ow Dt Gp U0 W0 S4 S6 P0 M0 M1 M2 M3 P4 P5 P6 P8 W4 W5 W1 W2
attribute [local go_sem ↓] Go.wp_at_zero Go.wp_at_succ
def intoN (p : Nat) (st : List Nat × List Nat) : List Nat × List Nat := intoG opsN (bitsG p) p (tabW p) st
theorem intoN_len {p : Nat} {st : List Nat × List Nat} (h1 : st.1.length = 2 ^ p) (h2 : st.2.length = 2 ^ p) : (intoN p st).1.length = 2 ^ p ∧ (intoN p st).2.length = 2 ^ p := by
 refine stages_len opsN (fun q k => tabW p (k * 2 ^ (p - (q + 1)))) (st := (swapG opsN (bitsG p) st.1, swapG opsN (bitsG p) st.2)) ?_ ?_ (Nat.le_refl p)
 ·rw [swapG_len]; exact h1
 ·rw [swapG_len]; exact h2
end Pc
namespace Pe
open Ieee Go Go.RowKit Go.Proofs Go.Proofs.YtalbgklfhabnkaaGreatDoor Ow Dt Gp G9 U0 W0 S4 S6 P0 M0 M1 M2 M3 P4 P5 P6 P8 W4 W5 W1 W2 Pc
attribute [local go_sem ↓] Go.wp_at_zero Go.wp_at_succ
def Cl (X : List Nat) : Prop := ∀ x ∈ X, x < 2 * sgnW ∧ cn x = x
theorem Fz.cl {w : World} {b : Nat} {X : List Nat} (h : Fz w b X) : Cl X := fun x hx => by
 obtain ⟨i, hi, rfl⟩ := List.getElem_of_mem hx
 obtain ⟨r, _, h1, h2⟩ := h.at_ hi
 rw [nthN_lt hi] at h2
 rw [← h2]; exact ⟨cn_lt h1, cn_idem r⟩
theorem Fr.cl {w : World} {A : Option Addr} {X : List Nat} (h : Fr w A X) : Cl X := fun x hx => by
 obtain ⟨i, hi, rfl⟩ := List.getElem_of_mem hx
 obtain ⟨ad, r, _, _, h1, h2⟩ := h.at_ hi
 rw [nthN_lt hi] at h2
 rw [← h2]; exact ⟨cn_lt h1, cn_idem r⟩
end Pe
namespace Pg
open Ieee Go Go.RowKit Go.Proofs Go.Proofs.YtalbgklfhabnkaaGreatDoor Ow Dt Gp I0 U0 W0 S4 S6 P0 M0 M1 M2 M3 P4 P5 P6 P8 W4 W5 W1 W2 Pc Pe
attribute [local go_sem ↓] Go.wp_at_zero Go.wp_at_succ
structure In (w : World) (v : Value) (X : List Nat) : Prop where
 out : ∃ A c, v = .slice A X.length c ∧ X.length ≤ c ∧ c ≤ 9223372036854775807 ∧ Fr w A X ∧ (A = none → X.length = 0)
theorem In.bel {w w' : World} {v : Value} {X : List Nat} (h : In w v X) (g : Bel w w') : In w' v X := by
 obtain ⟨A, c, h1, h2, h3, h4, h5⟩ := h.out
 exact ⟨A, c, h1, h2, h3, h4.bel g, h5⟩
theorem RowF.inn {w : World} {B : Nat} {v : Value} {X : List Nat} (h : RowF w B v X) (hm : X.length ≤ 35184372088831) : In w v X := by
 obtain ⟨A, c, h1, h2, h3, h4⟩ := h.out
 refine ⟨A, c, h1, h2, h3, ?_, fun e => ?_⟩
 ·rcases h4 with h4 | ⟨b, rfl, f, l⟩
  ·obtain rfl := List.length_eq_zero_iff.1 h4; exact Fr.nil _ _
  ·exact f.fr hm
 ·rcases h4 with h4 | ⟨b, rfl, f, l⟩
  ·exact h4
  ·cases e
theorem In.cl {w : World} {v : Value} {X : List Nat} (h : In w v X) : Cl X := by
 obtain ⟨A, c, h1, h2, h3, h4, h5⟩ := h.out
 exact Fr.cl h4
end Pg
namespace Y3
open Ieee Go Go.RowKit Go.Proofs Go.Proofs.YtalbgklfhabnkaaGreatDoor Ow Dt Gp I0 W0 S4 M0 M1 M3 W4 W5 V2
open Go.Proofs.YtalbgklfhabnkaaGreatDoor.V1 (NI St ni_same ni_loop St.refl St.of_bel blk_keep ni_blk put_st)
open Go.Proofs.YtalbgklfhabnkaaGreatDoor.J2 (Oz NP run_app)
open Go.Proofs.YtalbgklfhabnkaaGreatDoor.C6 (leaveAny)
open Go.Proofs.YtalbgklfhabnkaaGreatDoor.Pg (In)
attribute [local go_sem ↓] Go.wp_at_zero Go.wp_at_succ
attribute [local go_sem] Oper.semAt_some
def encI (i : Int) : Array Value := #[.int .i64 i]
def Walks (w : World) (gf : Nat) (lb : Array Value) (ys : List Int) : Prop := ∀ (n l : Nat) (W : World) (ks : List Nat), 1 ≤ n → Bel w W → (∀ k ∈ ks, w.heap.size ≤ k) →
 SeqB Tryz.prog n l gf lb encI ks ys.length (fun pre x _ => ys[pre.length]? = some x) (fun zs => zs = ys) (fun _ => True) W
def steps (fr by' : Int) (m : Nat) : List Int := (List.range m).map fun (k : Nat) => fr + k * by'
theorem steps_len (fr by' : Int) (m : Nat) : (steps fr by' m).length = m := by simp [steps]
theorem steps_at {fr by' : Int} {m k : Nat} (h : k < m) : (steps fr by' m)[k]? = some (fr + k * by') := by simp [steps, h]
theorem steps_succ (fr by' : Int) (k : Nat) : steps fr by' (k + 1) = steps fr by' k ++ [fr + k * by'] := by simp [steps, List.range_succ]
theorem places1 {fr by' en : Int} {m : Nat} (w : World) {bf be bb : Nat} (KF : Blk w bf 3 [.int .i64 fr]) (KE : Blk w be 3 [.int .i64 en]) (KB : Blk w bb 3 [.int .i64 by']) (hby : by' ≠ 0) (b1 : -1000000 ≤ fr ∧ fr ≤ 1000000) (b2 : -1000000 ≤ en ∧ en ≤ 1000000) (b3 : -1000000 ≤ by' ∧ by' ≤ 1000000)
  (hin : ∀ k : Nat, k < m → 0 ≤ fr + k * by' ∧ fr + k * by' < en) (hout : ¬ (0 ≤ fr + m * by' ∧ fr + m * by' < en)) :
  Walks w 131 #[.pointer (some ⟨bf, 0, none⟩), .pointer (some ⟨be, 0, none⟩), .pointer (some ⟨bb, 0, none⟩)] (steps fr by' m) := by
 intro n l W ks hn hW hks J Jx _ hJ hJx hY h0
 have lf := KF.lt
 have le := KE.lt
 have lb := KB.lt
 have KF := Ho.mk (KF.bel hW)
 have KE := Ho.mk (KE.bel hW)
 have KB := Ho.mk (KB.bel hW)
 have n1 : bf ∉ ks := fun q => by have := hks _ q; omega
 have n2 : be ∉ ks := fun q => by have := hks _ q; omega
 have n3 : bb ∉ ks := fun q => by have := hks _ q; omega
 have NK := Ho.mk (And.intro n1 (And.intro n2 n3))
 have HY := Ho.mk hY
 have H0 := Ho.mk h0
 have HIN := Ho.mk hin
 have HOUT := Ho.mk hout
 clear hY h0 hin hout n1 n2 n3 lf le lb hks hW
 have y0 := KF.out.cell (i := 0) rfl
 refine callsIn_wide.2 ?_
 go_enter Tryz.func131, Tryz.ntmps131
 refine (wpIn_wide (n := n)).1 ?_
 gi_wp2_with fail
 clear y0
 gi_loopw [5] (fun i wr => ∃ (z : Int) (k : Nat) (O : List Nat), i = .int .i64 z ∧ Ho (z = fr + k * by') ∧ k ≤ m ∧ Ho (J (steps fr by' k) O wr) ∧ Ho (Wk ks W wr) ∧ Ho (∀ q ∈ O, W.heap.size ≤ q)) (fun i _ => if 0 < by' then (en - intOf i).toNat else (intOf i + 1).toNat)
 case atStart => exact ⟨fr, 0, [], rfl, ⟨by simp⟩, Nat.zero_le _, H0, ⟨Wk.refl _ _⟩, ⟨by simp⟩⟩
 case round =>
  obtain ⟨z, k, O, rfl, hz, hk, hj, hw, hO⟩ := hrel
  have y1 := (hw.out.blk NK.out.2.1 KE.out).cell (i := 0) rfl
  rcases Nat.lt_or_ge k m with hlt | hge
  ·have hz2 := HIN.out k hlt
   rw [← hz.out] at hz2
   have hz3 := hz2.1
   have hz4 := hz2.2
   obtain ⟨fn, tmps, assign, body, hy, hR⟩ := HY.out _ O z wr hj.out (by rw [steps_len, steps_len]; exact hlt) (by rw [steps_len, steps_at hlt, hz.out]) hO.out hw.out.size
   dsimp only [encI] at hy
   clear hz2
   gi_wp2
   refine hR.mono ?_
   rintro e w4 (⟨rfl, hJ4, hY4⟩ | ⟨rfl, hJ4, hY4⟩)
   ·have y2 := ((hw.out.yd hY4).blk NK.out.2.2 KB.out).cell (i := 0) rfl
    have HJ := Ho.mk hJ4
    have HW := Ho.mk (hw.out.yd hY4)
    clear hJ4 hY4 hR hy y1
    gi_wp2
    go_roundw
    case rel => exact ⟨z + by', k + 1, O, rfl, ⟨by rw [hz.out]; push_cast; rw [Int.add_mul]; omega⟩, by omega, ⟨by rw [steps_succ, ← hz.out]; exact HJ.out⟩, HW, hO⟩
    case measure => simp only [intOf]; split <;> omega
   ·clear hR
    gi_wp2
    refine bodyPost_ret (results_none rfl _ _ _) rfl ?_
    exact ⟨⟨_, rfl⟩, .inr ⟨_, O, trivial, hJ4, hO.out⟩⟩
  ·obtain rfl : k = m := by omega
   have hn2 := HOUT.out
   rw [← hz.out] at hn2
   by_cases h1 : 0 ≤ z
   ·have h2 : en ≤ z := by omega
    clear hn2
    gi_wp2
    go_end0
    first | exact ⟨⟨_, rfl⟩, .inl ⟨_, O, rfl, hj.out, hO.out⟩⟩ | exact ⟨⟨_, rfl⟩, .inl ⟨O, hj.out, hO.out⟩⟩
   ·have h2 : z < 0 := by omega
    clear hn2 h1
    gi_wp2
    go_end0
    first | exact ⟨⟨_, rfl⟩, .inl ⟨_, O, rfl, hj.out, hO.out⟩⟩ | exact ⟨⟨_, rfl⟩, .inl ⟨O, hj.out, hO.out⟩⟩
theorem dPlaces {fr by' en : Int} (w : World) :
  Calls Tryz.prog 98 #[.int .i64 fr, .int .i64 by', .int .i64 en] w
   (fun e w' => e = .returned (.func (.func 131) #[] #[.pointer (some ⟨w.heap.size, 0, none⟩), .pointer (some ⟨w.heap.size + 1 + 1, 0, none⟩), .pointer (some ⟨w.heap.size + 1, 0, none⟩)]) ∧
    w' = ((w.alloc (.cells #[.int .i64 fr] 3)).alloc (.cells #[.int .i64 by'] 3)).alloc (.cells #[.int .i64 en] 3)) := by
 go_enter Tryz.func98, Tryz.ntmps98
 go_wp2
 refine bodyPost_ret (results_tmp rfl _ _ _) rfl ?_
 simp
theorem dPlacesW {fr by' en : Int} {m : Nat} (w : World) (hby : by' ≠ 0) (b1 : -1000000 ≤ fr ∧ fr ≤ 1000000) (b2 : -1000000 ≤ en ∧ en ≤ 1000000) (b3 : -1000000 ≤ by' ∧ by' ≤ 1000000)
  (hin : ∀ k : Nat, k < m → 0 ≤ fr + k * by' ∧ fr + k * by' < en) (hout : ¬ (0 ≤ fr + m * by' ∧ fr + m * by' < en)) :
  Calls Tryz.prog 98 #[.int .i64 fr, .int .i64 by', .int .i64 en] w
   (fun e w' => ∃ lb, e = .returned (.func (.func 131) #[] lb) ∧ Walks w' 131 lb (steps fr by' m) ∧ Bel w w') := by
 refine (dPlaces w).mono ?_
 rintro e w' ⟨rfl, rfl⟩
 have K1 := ((Blk.new w [.int .i64 fr] 3).old (.cells #[.int .i64 by'] 3)).old (.cells #[.int .i64 en] 3)
 have K2 := (Blk.new (w.alloc (.cells #[.int .i64 fr] 3)) [.int .i64 by'] 3).old (.cells #[.int .i64 en] 3)
 have K3 := Blk.new ((w.alloc (.cells #[.int .i64 fr] 3)).alloc (.cells #[.int .i64 by'] 3)) [.int .i64 en] 3
 simp only [World.size_alloc] at K2 K3
 exact ⟨_, rfl, places1 _ K1 K3 K2 hby b1 b2 b3 hin hout, (((Bel.refl w).alloc _).alloc _).alloc _⟩
structure Og (w : World) (v : Value) (Z : List Nat) : Prop where
 out : ∃ cs, Oz w 22 1 v Z.length cs ∧ ∀ j u, cs[j]? = some u → Fc u (nthN Z j)
theorem Og.nil (w : World) : Og w (.slice none 0 0) [] := ⟨[], Oz.nil _ _ _, fun j u h => by simp at h⟩
theorem Og.keep {w w' : World} {v : Value} {Z : List Nat} (h : Og w v Z) (k : ∀ g, v.ownBlock = some g → w'.heap[g]? = w.heap[g]?) : Og w' v Z := by
 obtain ⟨cs, h1, h2⟩ := h.out; exact ⟨cs, h1.keep k, h2⟩
theorem Og.lt {w : World} {v : Value} {Z : List Nat} (h : Og w v Z) {g : Nat} (hg : v.ownBlock = some g) : g < w.heap.size := by obtain ⟨cs, h1, _⟩ := h.out; exact h1.lt hg
theorem Og.slice {w : World} {v : Value} {Z : List Nat} (h : Og w v Z) : ∃ A c, v = .slice A Z.length c := by
 obtain ⟨cs, h1, _⟩ := h.out
 rcases h1.row with ⟨e, e2⟩ | ⟨g, cap, cur, e, _⟩
 ·exact ⟨none, 0, by rw [e, e2]⟩
 ·exact ⟨_, _, e⟩
theorem Og.rowF {w : World} {B : Nat} {v : Value} {Z : List Nat} (h : Og w v Z) (hB : ∀ g, v.ownBlock = some g → B ≤ g) : RowF w B v Z := by
 obtain ⟨cs, h1, h2⟩ := h.out
 have hl := h1.len
 rcases h1.row with ⟨rfl, h0⟩ | ⟨g, cap, cur, rfl, hb, k1, k2, k3, k4, _⟩
 ·exact ⟨none, 0, by rw [h0], by omega, by decide, .inl h0⟩
 ·refine ⟨_, cap, rfl, k1, by simp only [maxLen] at k2; omega, .inr ⟨g, rfl, ⟨cur.toList, ⟨by simpa using hb⟩, fun j hj => ?_⟩, hB g rfl⟩⟩
  have hjl : j < cs.length := by omega
  refine ⟨cs[j], ?_, h2 j _ (List.getElem?_eq_getElem hjl)⟩
  have : (cur.toList.take cs.length)[j]? = some cs[j] := by rw [k4]; exact List.getElem?_eq_getElem hjl
  rw [List.getElem?_take, if_pos hjl] at this
  exact this
theorem wp_appF {w : World} {o : Oper} {a : Act} {K : Act → World → Prop} {Q : Exit → Act → World → Prop} (s x : Operand) (ho : o.op = .call { callee := .builtin .append, args := #[s, x], argTypes := #[25, 25] })
  {v : Value} {Z : List Nat} (H : Og w v Z) (hs : a.eval s = v) {g c r : Nat} (hx : a.eval x = .slice (some ⟨g, 0, none⟩) 1 c) (hc : w.cell? ⟨g, 0, none⟩ = some (.float .f64 r)) (hr : r < 2 * sgnW) (hl : Z.length ≤ 100000)
  (h : ∀ v' w', Og w' v' (Z ++ [cn r]) → (w'.os = w.os ∧ w'.tape = w.tape ∧ w'.output = w.output ∧ w.heap.size ≤ w'.heap.size) → (∀ k, k < w.heap.size → w'.heap[k]? = w.heap[k]? ∨ (v.ownBlock = some k ∧ NI w k)) → (v'.ownBlock = v.ownBlock ∨ v'.ownBlock = some w.heap.size) → K (a.put o.dst v') w') :
  o.wp Tryz.prog a w K Q := by
 obtain ⟨cs, h1, h2⟩ := H.out
 obtain ⟨i, hi, hzz⟩ := Option.map_eq_some_iff.1 infoF
 simp only [Prod.mk.injEq] at hzz
 obtain ⟨hz, hsz, hb⟩ := hzz
 obtain ⟨v', w', hr', g1, g2, g3, g4⟩ := run_app (P := Tryz.prog) w 25 o.type 22 i (.float .f64 0) 1 8 Tryz.underlying25 hi hz hsz hb rfl (by decide) (by intro u hu z e; simp [Value.cells] at hu; subst hu; cases e) v Z.length cs h1 ⟨g, 0, none⟩ c [.float .f64 r] rfl
  (fun j u hj => by cases j with
   | zero => simp at hj; subst hj; rw [Addr.add_lit]; exact hc
   | succ j => simp at hj) (fun u hu => by simp at hu; subst hu; rfl) (fun u hu z e => by simp at hu; subst hu; cases e) (by omega) (by omega)
 unfold Oper.wp
 simp [execOp, ho, resolve, invoke, builtin, hs, hx, hr', Result.andThen]
 refine h v' w' ⟨cs ++ [.float .f64 r], by rw [List.length_append]; exact g1, fun j u hj => ?_⟩ g2 g3 g4
 have hcl := h1.len
 rw [List.getElem?_append] at hj
 split at hj
 ·rename_i hlt
  have := h2 j u hj
  rw [nthN_lt (by omega)] at this
  rw [nthN_lt (by rw [List.length_append]; omega), List.getElem_append_left (by omega)]; exact this
 ·rename_i hge
  have h0 : j - cs.length = 0 := by
   rcases hq : j - cs.length with _ | q
   ·rfl
   ·rw [hq] at hj; simp at hj
  rw [h0] at hj
  simp at hj
  subst hj
  have hjz : j = Z.length := by omega
  subst hjz
  refine ⟨r, rfl, hr, ?_⟩
  rw [nthN_lt (by simp)]; simp
theorem Og.far {w : World} {v : Value} {Z : List Nat} (h : Og w v Z) {p : Addr} (hp : v.ownBlock ≠ some p.block) (u : Value) : Og (w.setCell p u) v Z := h.keep fun g hg => Below.heap_setCell _ _ _ _ (fun e => hp (by rw [hg, e]))
theorem Og.bel {w w' : World} {v : Value} {Z : List Nat} (h : Og w v Z) (g : Bel w w') : Og w' v Z := h.keep fun k hk => g.block (h.lt hk)
theorem Og.form {w : World} {v : Value} {Z : List Nat} (h : Og w v Z) (hp : 0 < Z.length) : ∃ g c, v = .slice (some ⟨g, 0, none⟩) Z.length c ∧ Z.length ≤ c := by
 obtain ⟨cs, h1, h2⟩ := h.out
 rcases h1.row with ⟨rfl, h0⟩ | ⟨g, cap, cur, rfl, hb, k1, k2, k3, k4, _⟩
 ·omega
 ·exact ⟨g, cap, rfl, k1⟩
theorem Og.fz {w : World} {g n c : Nat} {Z : List Nat} (h : Og w (.slice (some ⟨g, 0, none⟩) n c) Z) : Fz w g Z := by
 obtain ⟨cs, h1, h2⟩ := h.out
 have hl := h1.len
 rcases h1.row with ⟨e, h0⟩ | ⟨g', cap, cur, e, hb, k1, k2, k3, k4, _⟩
 ·cases e
 ·cases e
  refine ⟨cur.toList, ⟨by simpa using hb⟩, fun j hj => ?_⟩
  have hjl : j < cs.length := by omega
  refine ⟨cs[j], ?_, h2 j _ (List.getElem?_eq_getElem hjl)⟩
  have : (cur.toList.take cs.length)[j]? = some cs[j] := by rw [k4]; exact List.getElem?_eq_getElem hjl
  rw [List.getElem?_take, if_pos hjl] at this
  exact this
theorem Og.setF {w : World} {g n c : Nat} {Z : List Nat} (h : Og w (.slice (some ⟨g, 0, none⟩) n c) Z) (i : Nat) {r x : Nat} (hr : r < 2 * sgnW) (hx : cn r = x) : Og (w.setCell ⟨g, i, none⟩ (.float .f64 r)) (.slice (some ⟨g, 0, none⟩) n c) (Z.set i x) := by
 obtain ⟨cs, h1, h2⟩ := h.out
 have hl := h1.len
 rcases h1.row with ⟨e, h0⟩ | ⟨g', cap, cur, e, hb, k1, k2, k3, k4, k5⟩
 ·cases e
 ·cases e
  have hnp : NP (cur.toList.set i (.float .f64 r)) := fun x hx z e => by
   rcases List.mem_or_eq_of_mem_set hx with q | q
   ·exact k5 x q z e
   ·subst q; cases e
  refine ⟨cs.set i (.float .f64 r), ⟨by rw [List.length_set, List.length_set]; exact hl, .inr ⟨g, c, (cur.toList.set i (.float .f64 r)).toArray, by rw [List.length_set], ?_, by rw [List.length_set]; exact k1, k2, by simp; omega, ?_, by simpa using hnp⟩⟩, fun j u hj => ?_⟩
  ·have KB : Blk w g 22 cur.toList := ⟨by simpa using hb⟩
   exact (KB.set i (.float .f64 r)).out
  ·rw [List.length_set]
   show List.take cs.length (cur.toList.set i _) = _
   rw [List.take_set, k4]
  ·rw [nthN_set]
   rw [List.getElem?_set] at hj
   by_cases e : i = j
   ·subst e
    by_cases hi : i < cs.length
    ·rw [if_pos rfl, if_pos hi] at hj
     cases hj
     rw [if_pos ⟨rfl, by omega⟩]
     exact ⟨r, rfl, hr, hx⟩
    ·rw [if_pos rfl, if_neg hi] at hj; cases hj
   ·rw [if_neg e] at hj
    rw [if_neg (fun q => e q.1)]
    exact h2 j u hj
structure Ap (w w' : World) (v v' : Value) : Prop where
 os : w'.os = w.os
 tape : w'.tape = w.tape
 output : w'.output = w.output
 size : w.heap.size ≤ w'.heap.size
 same : ∀ k, k < w.heap.size → v.ownBlock ≠ some k → w'.heap[k]? = w.heap[k]?
 own : v'.ownBlock = v.ownBlock ∨ v'.ownBlock = some w.heap.size
theorem Ap.bel {u w w' : World} {v v' : Value} (h : Ap w w' v v') (k : Bel u w) (hv : ∀ g, v.ownBlock = some g → u.heap.size ≤ g) : Bel u w' :=
 ⟨k.out.trans ⟨h.os, h.tape, h.output, h.size, fun i hi => h.same i (by have := k.size; omega) (fun e => by have := hv i e; omega)⟩⟩
theorem Ap.blk {w w' : World} {v v' : Value} (h : Ap w w' v v') {b : Nat} {t : TypeId} {cs : List Value} (k : Blk w b t cs) (hb : v.ownBlock ≠ some b) : Blk w' b t cs := blk_keep k (h.same b k.lt hb)
structure IP (w : World) (b2 b5 : Nat) (L : Value) (pre : List Int) (X : List Nat) (O : List Nat) (W : World) (v : Value) : Prop where
 bel : Bel w W
 big : b5 + 1 ≤ W.heap.size
 own : ∀ k ∈ O, b5 + 1 ≤ k
 top : ∀ k ∈ O, k < W.heap.size
 lst : Blk W b2 25 [L]
 var : Blk W b5 25 [v]
 row : Og W v (pre.map fun i => nthN X i.toNat)
 far : ∀ g, v.ownBlock = some g → g ∉ O ∧ b5 + 3 ≤ g
theorem ip_abides {w : World} {b2 b5 : Nat} {L : Value} {X : List Nat} (h0 : w.heap.size ≤ b2) (h1 : b2 < b5) (pre : List Int) : V1.Abides fun O W => ∃ v, IP w b2 b5 L pre X O W v := by
 rintro O A O' B ⟨v, h⟩ hs h2 h3
 have same : ∀ k, k < A.heap.size → k ∉ O → B.heap[k]? = A.heap[k]? := fun k hk hn => (hs.block k hk).elim id (fun q => (hn q.1).elim)
 have low : ∀ k, k ≤ b5 → k ∉ O := fun k hk q => by have := h.own k q; omega
 have hb := h.big
 have sz := hs.size
 refine ⟨v, ⟨⟨⟨hs.os.trans h.bel.out.os, hs.tape.trans h.bel.out.tape, hs.output.trans h.bel.out.output, Nat.le_trans h.bel.size sz, fun k hk => (same k (Nat.lt_of_lt_of_le hk h.bel.size) (low k (by omega))).trans (h.bel.out.block k hk)⟩⟩, by omega,
  fun k hk => (h3 k hk).elim (h.own k) (fun q => by omega), fun k hk => (h3 k hk).elim (fun q => Nat.lt_of_lt_of_le (h.top k q) sz) (fun q => q.2), blk_keep h.lst (same _ (by omega) (low _ (by omega))), blk_keep h.var (same _ (by omega) (low _ (by omega))),
  h.row.keep (fun g hg => same g (h.row.lt hg) (h.far g hg).1), fun g hg => ⟨fun q => (h3 g q).elim (h.far g hg).1 (fun q => by have := h.row.lt hg; omega), (h.far g hg).2⟩⟩⟩
theorem dPicked {A : Option Addr} {c gf : Nat} {lb : Array Value} {X : List Nat} {ys : List Int} (w : World) (hx : In w (.slice A X.length c) X) (hl : X.length ≤ 100000) (hy : ∀ i ∈ ys, 0 ≤ i ∧ i < X.length) (hys : ys.length ≤ 100000) (hw : Walks w gf lb ys) (eg : ∀ args w, (callFunc gf args).run Tryz.prog w = .ok (.enter gf args) w) :
  Calls Tryz.prog 100 #[.slice A X.length c, .func (.func gf) #[] lb] w fun e w' => ∃ v, e = .returned v ∧ (Og w' v (ys.map fun i => nthN X i.toNat) ∧ ∀ g, v.ownBlock = some g → w.heap.size ≤ g) ∧ Bel w w' := by
 have HX := Ho.mk hx
 have HW := Ho.mk hw
 have HY := Ho.mk hy
 clear hx hw hy
 refine (callsIn_wide (n := 3)).1 ?_
 refine callsIn_of_wp_marks Tryz.func100 rfl trivial ?_ rfl
 simp only [Tryz.ntmps100, List.size_toArray, List.length_cons, List.length_nil, Nat.reduceAdd, Nat.reduceSub, Array.replicate_succ, Array.replicate_zero, List.push_toArray, List.append_toArray, List.nil_append, List.cons_append]
 gi_wp2_with fail
 have KL := Ho.mk ((Blk.new w [.slice A X.length c] 25).old (.cells #[.slice none 0 0] 25))
 have KO := Ho.mk (Blk.new (w.alloc (.cells #[.slice A X.length c] 25)) [.slice none 0 0] 25)
 have HB := Ho.mk (((Bel.refl w).alloc (.cells #[.slice A X.length c] 25)).alloc (.cells #[.slice none 0 0] 25))
 have HS : ((w.alloc (.cells #[.slice A X.length c] 25)).alloc (.cells #[.slice none 0 0] 25)).heap.size = w.heap.size + 2 := by simp only [World.size_alloc]
 simp only [World.size_alloc] at KO
 generalize (w.alloc (.cells #[.slice A X.length c] 25)).alloc (.cells #[.slice none 0 0] 25) = w5 at *
 refine rangeB (α := Int) (encs := encI) (bs := [w.heap.size + 1]) (N := ys.length) (Bd := False) (Px := fun pre x _ => ys[pre.length]? = some x) (S := fun zs => zs = ys) (Sp := fun _ => True)
  (by omega) rfl eg (fun x => by rfl) (by intro k hk; simp at hk; omega) ?_
  (fun pre O W => ∃ v, IP w w.heap.size (w.heap.size + 1) (.slice A X.length c) pre X O W v) (fun _ _ _ _ => False) (fun h => h.elim) (ip_abides (Nat.le_refl _) (by omega)) (fun _ _ _ _ _ _ h => h.elim) ?_
  (fun pre x a' W => a' = { tmps := #[.slice A X.length c, .func (.func gf) #[] lb, .pointer (some ⟨w.heap.size, 0, none⟩), undef, .slice none 0 0, .pointer (some ⟨w.heap.size + 1, 0, none⟩), .int .i64 x, .func (.func gf) #[] lb, .int .i64 x, undef, undef, undef, undef, undef, undef, undef, undef], defers := [] } ∧ ys[pre.length]? = some x) ?_ ?_ ?_ ?_ ?_
 ·intro W hW hBW
  exact HW.out _ _ W _ (by omega) (HB.out.trans hBW) (fun k hk => by simp at hk; omega)
 ·exact ⟨_, HB.out, by omega, by simp, by simp, KL.out, KO.out, Og.nil _, by simp [Value.ownBlock]⟩
 ·rintro pre x a' A r o hr h; exact h
 ·rintro l pre O x W K ⟨v, hI⟩ hsz hx1 hK
  simp [encI]
  gi_wp2
  exact hK _ _ (Bel.refl W) ⟨rfl, hx1⟩
 ·-- a round
  rintro l pre O x a' W ⟨v, hI⟩ hlen hsz ⟨rfl, hx1⟩ hO hlO
  obtain ⟨hx0, hxl⟩ := HY.out x (List.mem_of_getElem? hx1)
  have hR := hI.row
  obtain ⟨Z, hZ⟩ : ∃ Z, Z = pre.map (fun i => nthN X i.toNat) := ⟨_, rfl⟩
  rw [← hZ] at hR
  obtain ⟨sA, sc, rfl⟩ := hR.slice
  have HR := Ho.mk hR
  have HZ := Ho.mk hZ
  have lZ : Z.length ≤ 100000 := by rw [hZ, List.length_map]; omega
  clear hR hZ
  obtain ⟨A1, c1, e1, hc1, hc2, hfr, _⟩ := HX.out.out
  cases e1
  obtain ⟨ad, _, rfl, hcell, r, rfl, hr1, hr2⟩ := hfr.cell x.toNat (by omega)
  have y5 := hI.var.cell (i := 0) rfl
  have y2 := hI.lst.cell (i := 0) rfl
  have yx := hI.bel.cell hcell
  have zx : x = (x.toNat : Int) := by omega
  have HI := Ho.mk hI
  have HC := Ho.mk (And.intro hr1 hr2)
  have HX1 := Ho.mk hx1
  clear hI hcell hr1 hr2 hx1 hfr
  generalize x.toNat = xn at *
  subst zx
  refine wpIn_block ?_
  refine Yi.late_round 6 (S := fun w' => Bel W w') (by kernel_rfl) (by intro o ho c e; simp at ho; rcases ho with rfl | rfl | rfl | rfl | rfl | rfl | rfl | rfl <;> cases e) (by rintro ⟨_, _, h⟩; exact h) (Bel.refl _).drew (fun hHeld => ?_)
  (try dsimp only at hHeld)
  refine I7.kl (i := 0) (v := ?_) hHeld (fun w' hSw => ?_) ?_
  rotate_left
  ·(have z0 := hSw.cell y5; go_simp; try (with_reducible rfl))
  refine I7.kl (i := 1) (v := ?_) hHeld (fun w' hSw => ?_) ?_
  rotate_left
  ·(have z0 := hSw.cell y2; go_simp; try (with_reducible rfl))
  refine I7.kt (i := 2) hHeld ?_
  refine I7.kt (i := 3) hHeld ?_
  refine I7.kl (i := 4) (v := ?_) hHeld (fun w' hSw => ?_) ?_
  rotate_left
  ·(have z0 := hSw.cell yx; go_simp; try (with_reducible rfl))
  try simp only [Act.put, Ow.zS, Ow.zC, Ow.zD]
  refine I7.kc (i := 5) (fun K hK => ?_)
  go_simp
  refine hK.out _ _ (Bel.alloc hHeld _) (fun hHeld => ?_)
  clear hK K
  try simp only [Act.put, Ow.zS, Ow.zC, Ow.zD]
  have z9 : (W.alloc (.cells #[.float .f64 r] 22)).drew.cell? ⟨W.heap.size, 0, none⟩ = some (.float .f64 r) := (Blk.new W [.float .f64 r] _).cell (i := 0) rfl
  have hD : Bel W (W.alloc (.cells #[.float .f64 r] 22)).drew := ((Bel.refl W).alloc _).drew
  have hsD : (W.alloc (.cells #[.float .f64 r] 22)).drew.heap.size = W.heap.size + 1 := by show (World.alloc W _).heap.size = _; rw [World.size_alloc]
  have al : ∀ k, k < W.heap.size → (W.alloc (.cells #[.float .f64 r] 22)).drew.heap[k]? = W.heap[k]? := fun k hk => hD.block hk
  generalize (W.alloc (.cells #[.float .f64 r] 22)).drew = WD at *
  refine I7.ke (i := 6) (fun K hK => ?_)
  refine wp_appF _ _ rfl (HR.out.keep (fun g hg => al g (HR.out.lt hg))) rfl rfl z9 HC.out.1 lZ ?_
  intro v' w' ho he hb hat
  obtain ⟨Z2, hZ2⟩ : ∃ Z2, Z2 = Z ++ [cn r] := ⟨_, rfl⟩
  rw [← hZ2] at ho
  have HZ2 := Ho.mk hZ2
  clear hZ2
  obtain ⟨tA, tc, rfl⟩ := ho.slice
  have hbig := HI.out.big
  have low : ∀ k, k < w.heap.size + 4 → k < W.heap.size → w'.heap[k]? = W.heap[k]? := fun k h1 h2 => by
   rcases hb k (by omega) with q | ⟨q, _⟩
   ·exact q.trans (al k h2)
   ·have := (HI.out.far k q).2; omega
  have KV : Ho (Blk w' (w.heap.size + 1) 25 [.slice sA Z.length sc]) := ⟨blk_keep HI.out.var (low _ (by omega) (by omega))⟩
  have HE := Ho.mk (And.intro ho (And.intro he (And.intro hb (And.intro hat (And.intro low al)))))
  have y0 := KV.out.cell (i := 0) rfl
  have x0 := KV.out.free 0
  refine hK.out _ _ ?_
  clear hK K ho he hb hat low al y5 y2 yx z9
  try simp only [Act.put, Ow.zS, Ow.zC, Ow.zD]
  refine I7.ke2 (i := 7) (fun K hK => ?_)
  go_simp
  refine hK.out _ _ ?_
  clear hK K
  refine wpAny_done (by kernel_rfl) ?_ _
  obtain ⟨ho, he, hb, hat, low, al⟩ := HE.out
  have hI := HI.out
  generalize hv : Value.slice tA Z2.length tc = v2 at *
  have nv : NI W (w.heap.size + 1) := ni_blk hI.var (by intro i z hz; cases i <;> simp at hz)
  have ne : ∀ k, k ≠ w.heap.size + 1 → (w'.setCell ⟨w.heap.size + 1, 0, none⟩ v2).heap[k]? = w'.heap[k]? := fun k hk => Below.heap_setCell _ _ _ _ (by first | exact hk | exact Ne.symm hk)
  have sz : w'.heap.size = (w'.setCell ⟨w.heap.size + 1, 0, none⟩ v2).heap.size := by simp [World.setCell]
  have hY : Yd [w.heap.size + 1] O (w5.heap.size + 2) W (w'.setCell ⟨w.heap.size + 1, 0, none⟩ v2) := ⟨he.1.trans hD.out.os, he.2.1.trans hD.out.tape, he.2.2.1.trans hD.out.output, by rw [← sz]; omega, fun k hk => by
   by_cases e : k = w.heap.size + 1
   ·subst e
    exact .inr ⟨.inl nv, fun q => by have := hI.own _ q; omega, .inl (by simp)⟩
   ·rcases hb k (by omega) with q | ⟨q1, q2⟩
    ·exact .inl ((ne k e).trans (q.trans (al k hk)))
    ·exact .inr ⟨.inl (ni_same (al k hk).symm q2), (hI.far k q1).1, .inr (by have := (hI.far k q1).2; omega)⟩⟩
  have fr : ∀ g, v2.ownBlock = some g → g ∉ O ∧ w.heap.size + 1 + 3 ≤ g := fun g hg => by
   rcases hat with q | q
   ·exact hI.far g (q ▸ hg)
   ·rw [hg] at q
    cases q
    exact ⟨fun q => by have := hI.top _ q; omega, by omega⟩
  refine ⟨hY, v2, ?_⟩
  refine ⟨⟨⟨hY.os.trans hI.bel.out.os, hY.tape.trans hI.bel.out.tape, hY.output.trans hI.bel.out.output, Nat.le_trans hI.bel.size hY.size, fun k hk => ?_⟩⟩, by have := hY.size; omega, hI.own, fun k hk => Nat.lt_of_lt_of_le (hI.top k hk) hY.size, blk_keep hI.lst ((ne _ (by omega)).trans (low _ (by omega) (by omega))), KV.out.set 0 _, ?_, fr⟩
  ·have := hI.bel.size
   exact (ne k (by omega)).trans ((low k (by omega) (by omega)).trans (hI.bel.out.block k hk))
  ·rw [List.map_append, ← HZ.out, List.map_cons, List.map_nil, Int.toNat_natCast, ← HC.out.2, ← HZ2.out]
   exact ho.keep fun g hg => ne g (by have := (fr g hg).2; omega)
 ·-- all have come
  rintro zs O W hsz rfl ⟨v, hI⟩ hd
  have y0 := hI.var.cell (i := 0) rfl
  have HI := Ho.mk hI
  clear hI
  gi_wp2_with fail
  refine leaveAny hd (bodyPost_ret (results_tmp rfl _ _ _) rfl ?_)
  have hfar := HI.out.far
  have hbl := HI.out.bel
  refine ⟨v, rfl, ⟨HI.out.row.keep fun g hg => World.putObj_heap_other (by have := (hfar g hg).2; omega), fun g hg => by have := (hfar g hg).2; omega⟩, ⟨⟨hbl.out.os, hbl.out.tape, hbl.out.output, by have := hbl.size; simpa [World.putObj] using this, fun j hj => (World.putObj_heap_other (by omega)).trans (hbl.out.block j hj)⟩⟩⟩
 ·rintro c pre O W hsz _ hI; exact hI.elim
def idx (X : List Nat) (ys : List Int) : List Nat := ys.map fun i => nthN X i.toNat
theorem idx_even (X : List Nat) : idx X (steps 0 2 ((X.length + 1) / 2)) = M2.evenG opsN X := by
 apply List.ext_getElem (by simp [idx, steps, M2.evenG])
 intro i h1 h2
 simp only [idx, steps, M2.evenG, List.getElem_map, List.getElem_range]
 show nthN X _ = nthN X _
 congr 1; omega
theorem idx_odd (X : List Nat) : idx X (steps 1 2 (X.length / 2)) = M2.oddG opsN X := by
 apply List.ext_getElem (by simp [idx, steps, M2.oddG])
 intro i h1 h2
 simp only [idx, steps, M2.oddG, List.getElem_map, List.getElem_range]
 show nthN X _ = nthN X _
 congr 1; omega
theorem steps_mem {fr by' : Int} {m : Nat} {i : Int} (h : i ∈ steps fr by' m) : ∃ k : Nat, k < m ∧ i = fr + k * by' := by
 simp only [steps, List.mem_map, List.mem_range] at h
 obtain ⟨k, h1, h2⟩ := h
 exact ⟨k, h1, h2.symm⟩
def MakesG (w : World) (Z : List Nat) (e : Ending) (w' : World) : Prop := ∃ A c, e = .returned (.slice A Z.length c) ∧ (Og w' (.slice A Z.length c) Z ∧ ∀ g, (Value.slice A Z.length c).ownBlock = some g → w.heap.size ≤ g) ∧ Bel w w'
def MakesF (w : World) (Z : List Nat) (e : Ending) (w' : World) : Prop := ∃ A c, e = .returned (.slice A Z.length c) ∧ RowF w' w.heap.size (.slice A Z.length c) Z ∧ Bel w w'
theorem dEven {A : Option Addr} {c : Nat} {X : List Nat} (w : World) (hx : In w (.slice A X.length c) X) (hl : X.length ≤ 100000) :
  Calls Tryz.prog 119 #[.slice A X.length c] w (MakesG w (M2.evenG opsN X)) := by
 have HX := Ho.mk hx
 have P := Ho.mk (dPlacesW (fr := 0) (by' := 2) (en := (X.length : Int)) (m := (X.length + 1) / 2) w (by decide) (by omega) (by omega) (by decide) (fun k hk => by omega) (by omega))
 clear hx
 go_enter Tryz.func119, Tryz.ntmps119
 go_wp2_with fail
 (with_reducible refine P.out.mono ?_); rintro e w1 ⟨lb, rfl, hW, b1⟩
 have HW := Ho.mk hW
 have HB := Ho.mk b1
 clear P hW b1
 have C := Ho.mk (dPicked w1 (HX.out.bel HB.out) hl (fun i hi => by obtain ⟨k, h1, h2⟩ := steps_mem hi; omega) (by rw [steps_len]; omega) HW.out (fun args w => rfl))
 go_wp2_with fail
 (with_reducible refine C.out.mono ?_); rintro e w2 ⟨v, rfl, r, b2⟩
 have R := Ho.mk r
 have B2 := Ho.mk b2
 clear C r b2
 go_wp2
 go_ret
 have r := R.out
 rw [show (List.map (fun i => nthN X i.toNat) (steps 0 2 ((X.length + 1) / 2))) = (M2.evenG opsN X) from idx_even X] at r
 obtain ⟨A', c', e⟩ := r.1.slice
 subst e
 exact ⟨A', c', rfl, ⟨r.1, fun g hg => Nat.le_trans HB.out.size (r.2 g hg)⟩, HB.out.trans B2.out⟩
theorem dOdd {A : Option Addr} {c : Nat} {X : List Nat} (w : World) (hx : In w (.slice A X.length c) X) (hl : X.length ≤ 100000) :
  Calls Tryz.prog 120 #[.slice A X.length c] w (MakesG w (M2.oddG opsN X)) := by
 have HX := Ho.mk hx
 have P := Ho.mk (dPlacesW (fr := 1) (by' := 2) (en := (X.length : Int)) (m := X.length / 2) w (by decide) (by omega) (by omega) (by decide) (fun k hk => by omega) (by omega))
 clear hx
 go_enter Tryz.func120, Tryz.ntmps120
 go_wp2_with fail
 (with_reducible refine P.out.mono ?_); rintro e w1 ⟨lb, rfl, hW, b1⟩
 have HW := Ho.mk hW
 have HB := Ho.mk b1
 clear P hW b1
 have C := Ho.mk (dPicked w1 (HX.out.bel HB.out) hl (fun i hi => by obtain ⟨k, h1, h2⟩ := steps_mem hi; omega) (by rw [steps_len]; omega) HW.out (fun args w => rfl))
 go_wp2_with fail
 (with_reducible refine C.out.mono ?_); rintro e w2 ⟨v, rfl, r, b2⟩
 have R := Ho.mk r
 have B2 := Ho.mk b2
 clear C r b2
 go_wp2
 go_ret
 have r := R.out
 rw [show (List.map (fun i => nthN X i.toNat) (steps 1 2 (X.length / 2))) = (M2.oddG opsN X) from idx_odd X] at r
 obtain ⟨A', c', e⟩ := r.1.slice
 subst e
 exact ⟨A', c', rfl, ⟨r.1, fun g hg => Nat.le_trans HB.out.size (r.2 g hg)⟩, HB.out.trans B2.out⟩
end Y3
namespace Y4
open Ieee Go Go.RowKit Go.Proofs Go.Proofs.YtalbgklfhabnkaaGreatDoor Ow Dt Gp I0 U0 W0 S4 S6 P0 M0 M1 M3 W4 W5 V2 P4 Y3 Yh
open Go.Proofs.YtalbgklfhabnkaaGreatDoor.V1 (NI St ni_same ni_loop St.refl St.of_bel blk_keep ni_blk put_st)
open Go.Proofs.YtalbgklfhabnkaaGreatDoor.C6 (leaveAny)
open Go.Proofs.YtalbgklfhabnkaaGreatDoor.Pg (In)
attribute [local go_sem ↓] Go.wp_at_zero Go.wp_at_succ
attribute [local go_sem] Oper.semAt_some
theorem dLogR {n : Nat} {fn : Nat} (hfn : fn = 118) (w : World) (h : n < 1100) (T : Tab w) : Calls Tryz.prog fn #[.int .i64 (n : Int)] w fun e w' => e = .returned (.int .i64 (logI n)) ∧ w = w' := by
 have TT := Ho.mk T
 clear T
 subst hfn
 obtain ⟨k, hk⟩ : ∃ k : Int, k = (n : Int) := ⟨_, rfl⟩
 by_cases h0 : n = 0
 ·subst h0
  have e : logI 0 = -1 := by decide
  rw [e]
  go_enter Tryz.func118, Tryz.ntmps118
  go_wp2
  go_ret
  exact ⟨rfl, rfl⟩
 ·obtain ⟨f1, f2⟩ := log_fact h h0
  have F2 := Ho.mk f2
  have hk0 : 0 < k := by omega
  have hk1 : k < 1100 := by omega
  by_cases hp : 2 ^ Nat.log2 n = n
  ·have hb : bits .and .i64 k (k - 1) = 0 := by rw [hk]; exact f1.2 hp
   have HE := Ho.mk (show logI n = if n ≤ 1024 then (Nat.log2 n : Int) else -1 by unfold logI; by_cases c : n ≤ 1024 <;> simp [h0, hp, c])
   have HT := Ho.mk (f2 hp)
   rw [HE.out, ← hk]
   have HK := Ho.mk hk
   clear f1 f2 hp h0 hk
   by_cases c : 1024 < k
   ·rw [if_neg (by have := HK.out; omega)]
    go_enter Tryz.func118, Tryz.ntmps118
    go_wp2
    go_ret
    exact ⟨rfl, rfl⟩
   ·rw [if_pos (by have := HK.out; omega)]
    go_enter Tryz.func118, Tryz.ntmps118
    go_wp2_with (go_at_call 39; (with_reducible refine (E1.tz_callsI _ _ (by omega) (by omega) TT.out).mono ?_); rintro e w' ⟨rfl, rfl⟩)
    go_ret
    refine ⟨?_, rfl⟩
    rw [show k.toNat = n by have := HK.out; omega, HT.out]; rfl
  ·have hb : ¬ bits .and .i64 k (k - 1) = 0 := by rw [hk]; exact fun e => hp (f1.1 e)
   have HE : logI n = -1 := by unfold logI; rw [if_neg (fun q => hp q.2.1)]
   rw [HE, ← hk]
   clear f1 f2 hp h0 hk HE F2
   go_enter Tryz.func118, Tryz.ntmps118
   go_wp2
   go_ret
   exact ⟨rfl, rfl⟩
theorem then_falseW {P : Program} {c : Code} {K : Act → World → Prop} {Q : Exit → Act → World → Prop} {a : Act} {w : World} (h : c.wp P (Exit.then K (fun _ _ _ => False)) a w) : c.wp P (Exit.then K Q) a w :=
 (wpIn_wide (n := 0)).1 (J3.then_false (wpIn_wide.2 h))
theorem Fz.at2 {w : World} {b : Nat} {X : List Nat} (K : Fz w b X) (i : Nat) (hi : i < X.length) : ∃ v, w.cell? ⟨b, i, none⟩ = some v := by obtain ⟨r, h, _⟩ := K.at_ hi; exact ⟨_, h⟩
theorem dPut {b n c k r s : Nat} {X : List Nat} (w : World) (K : Fk w b X) (hk : 2 * k + 1 < n) (hX : X.length = n) (hn : n ≤ 100000) (hr : r < 2 * sgnW) (hs : s < 2 * sgnW) :
  Calls Tryz.prog 121 #[.slice (some ⟨b, 0, none⟩) n c, .int .i64 (k : Int), .float .f64 r, .float .f64 s] w
   fun e w' => e = .returned (.tuple #[]) ∧ Fk w' b ((X.set (2 * k) (cn r)).set (2 * k + 1) (cn s)) ∧ Gr b w w' := by
 have K2 := K.set (2 * k) hr rfl
 have K3 := K2.set (2 * k + 1) hs rfl
 obtain ⟨_, y0⟩ := Fz.at2 K.fz (2 * k) (by omega)
 have x0 := K.free (2 * k)
 obtain ⟨_, y1⟩ := Fz.at2 K2.fz (2 * k + 1) (by rw [List.length_set]; omega)
 have x1 := K2.free (2 * k + 1)
 have G := Ho.mk (((Gr.refl b w).set (2 * k) (.float .f64 r)).set (2 * k + 1) (.float .f64 s))
 have K3 := Ho.mk K3
 have e1 : (2 * (k : Int)).toNat = 2 * k := by omega
 have e2 : (2 * (k : Int) + 1).toNat = 2 * k + 1 := by omega
 clear K K2
 go_enter Tryz.func121, Tryz.ntmps121
 go_wp2_with fail
 go_end0
 exact ⟨rfl, K3.out, G.out⟩
theorem hp_abides {W0 : World} {L : List Ent} {B : Nat} (hL : ∀ e ∈ L, e.b < B) (hB : W0.heap.size ≤ B) : V1.Abides (fun O W => Hp W0 W L ∧ B ≤ W.heap.size ∧ ∀ k ∈ O, B ≤ k ∧ k < W.heap.size) := by
 rintro O A O' C ⟨h, hb, ho⟩ hs h1 h2
 have sz := hs.size
 have same : ∀ k, k < B → C.heap[k]? = A.heap[k]? := fun k hk => (hs.block k (by omega)).elim id (fun q => by have := (ho k q.1).1; omega)
 exact ⟨⟨⟨⟨hs.os.trans h.bel.out.os, hs.tape.trans h.bel.out.tape, hs.output.trans h.bel.out.output, Nat.le_trans h.bel.size sz, fun k hk => (same k (by omega)).trans (h.bel.out.block k hk)⟩⟩, h.ge, h.nd, fun e he => (h.ok e he).same (same e.b (hL e he))⟩, by omega,
  fun k hk => (h2 k hk).elim (fun q => by have := ho k q; omega) (fun q => by omega)⟩
theorem ni_fk {w : World} {b : Nat} {X : List Nat} (h : Fk w b X) : NI w b := by
 obtain ⟨cs, h1, h2, h3⟩ := h.out
 refine ni_blk h1 ?_
 intro i z hz
 obtain ⟨r, e, _⟩ := h3 i _ hz
 cases e
theorem yd_gr {b B : Nat} {bs O : List Nat} {W W' : World} {X : List Nat} (g : Gr b W W') (h : Fk W b X) (hb : b ∈ bs) (hO : b ∉ O) : Yd bs O B W W' :=
 ⟨g.os, g.tape, g.output, g.size, fun k hk => by
  by_cases e : k = b
  ·subst e; exact .inr ⟨.inl (ni_fk h), hO, .inl hb⟩
  ·exact .inl (g.block k hk e)⟩
structure E4 where
 k : Nat
 a : Nat
 b : Nat
 c : Nat
 d : Nat
def encE (x : E4) : Array Value := #[.int .i64 (x.k : Int), .agg #[.float .f64 x.a, .float .f64 x.b, .float .f64 x.c, .float .f64 x.d]]
structure E4.Ok (X Y : List Nat) (m : Nat) (x : E4) : Prop where
 lt : (x.a < 2 * sgnW ∧ x.b < 2 * sgnW) ∧ (x.c < 2 * sgnW ∧ x.d < 2 * sgnW)
 cl : (cn x.a = nthN X x.k ∧ cn x.b = nthN Y x.k) ∧ (cn x.c = nthN X (m - x.k) ∧ cn x.d = nthN Y (m - x.k))
theorem cellS {ks : List Nat} {B : Nat} {w w' : World} {p : Addr} {v : Value} (h : ∀ k, k < B → k ∉ ks → w'.heap[k]? = w.heap[k]?) (hb : p.block < B) (hn : p.block ∉ ks) (hc : w.cell? p = some v) : w'.cell? p = some v := by
 unfold World.cell? at hc ⊢
 rw [h _ hb hn]; exact hc
def Ends (w : World) (no : List Nat) (lb : Array Value) (X Y : List Nat) (m : Nat) : Prop := ∀ (n l : Nat) (W : World) (ks : List Nat), 1 ≤ n → Bel w W → (∀ k ∈ ks, k ∉ no) →
 SeqB Tryz.prog n l 143 lb encE ks (m - 1) (fun pre x _ => x.k = pre.length + 1 ∧ x.Ok X Y m) (fun zs => zs.length = m - 1) (fun _ => True) W
theorem ends1 {m c c' : Nat} {X Y : List Nat} (w : World) {bz b b' : Nat} (KZ : Blk w bz 46 [.slice (some ⟨b, 0, none⟩) m c, .slice (some ⟨b', 0, none⟩) m c']) (FX : Fz w b X) (FY : Fz w b' Y) (hX : X.length = m) (hY : Y.length = m) (hm : 1 ≤ m) (hm2 : m ≤ 100000) :
  Ends w [bz, b, b'] #[.pointer (some ⟨bz, 0, none⟩)] X Y m := by
 intro n l W ks hn hW hks J Jx _ hJ hJx hY' h0
 have KZ := Ho.mk (KZ.bel hW)
 have FX := Ho.mk (FX.bel hW)
 have FY := Ho.mk (FY.bel hW)
 have n1 : bz ∉ ks := fun q => hks _ q (by simp)
 have n2 : b ∉ ks := fun q => hks _ q (by simp)
 have n3 : b' ∉ ks := fun q => hks _ q (by simp)
 have NK := Ho.mk (And.intro n1 (And.intro n2 n3))
 have HX := Ho.mk hX
 have HYl := Ho.mk hY
 have HY := Ho.mk hY'
 have H0 := Ho.mk h0
 clear hY' h0 n1 n2 n3 hks hW hX hY
 have y0 := KZ.out.cell (i := 0) rfl
 refine callsIn_wide.2 ?_
 go_enter Tryz.func143, Tryz.ntmps143
 refine (wpIn_wide (n := n)).1 ?_
 gi_wp2_with fail
 clear y0
 gi_loopw [4] (fun i wr => ∃ (k : Nat) (pre : List E4) (O : List Nat), i = .int .i64 (k : Int) ∧ Ho (pre.length + 1 = k) ∧ 1 ≤ k ∧ k ≤ m ∧ Ho (J pre O wr) ∧ Ho (Wk ks W wr) ∧ Ho (∀ q ∈ O, W.heap.size ≤ q)) (fun i _ => m - (intOf i).toNat)
 case atStart => exact ⟨1, [], [], rfl, ⟨rfl⟩, by omega, by omega, H0, ⟨Wk.refl _ _⟩, ⟨by simp⟩⟩
 case round =>
  obtain ⟨k, pre, O, rfl, hp, hk1, hk, hj, hw, hO⟩ := hrel
  rcases Nat.lt_or_ge k m with hlt | hge
  ·have KR := Ho.mk (hw.out.blk NK.out.1 KZ.out)
   obtain ⟨cx, kx, fx⟩ := FX.out.out
   obtain ⟨cy, ky, fy⟩ := FY.out.out
   have GX := Ho.mk (show Fz wr b X from ⟨cx, hw.out.blk NK.out.2.1 kx, fx⟩)
   have GY := Ho.mk (show Fz wr b' Y from ⟨cy, hw.out.blk NK.out.2.2 ky, fy⟩)
   clear kx fx ky fy
   obtain ⟨y0, y1⟩ := KR.out.c2
   obtain ⟨r0, x0, l0, c0⟩ := GX.out.at_ (i := k) (by rw [HX.out]; exact hlt)
   obtain ⟨r1, x1, l1, c1⟩ := GY.out.at_ (i := k) (by rw [HYl.out]; exact hlt)
   obtain ⟨r2, x2, l2, c2⟩ := GX.out.at_ (i := m - k) (by rw [HX.out]; omega)
   obtain ⟨r3, x3, l3, c3⟩ := GY.out.at_ (i := m - k) (by rw [HYl.out]; omega)
   have OK := Ho.mk (show (E4.mk k r0 r1 r2 r3).Ok X Y m from ⟨⟨⟨l0, l1⟩, l2, l3⟩, ⟨c0, c1⟩, c2, c3⟩)
   clear l0 l1 l2 l3 c0 c1 c2 c3
   have es : IntKind.i64.wrap ((m : Int) - (k : Int)) = ((m - k : Nat) : Int) := by rw [IntKind.wrap_i64]; omega
   have es2 : m - k < m := by omega
   have JD := Ho.mk (hJ _ _ _ O _ hj.out (St.of_bel (Bel.refl wr).drew _) (fun _ h => h) (fun _ h => .inl h))
   obtain ⟨fn, tmps, assign, body, hy, hR⟩ := HY.out pre O (E4.mk k r0 r1 r2 r3) wr.drew JD.out (by have := hp.out; omega) ⟨hp.out.symm, OK.out⟩ hO.out hw.out.size
   dsimp only [encE] at hy
   have HR := Ho.mk hR
   clear hR
   refine wpIn_wide.2 ?_
   go_upto_region 4 with fail
   refine (wpIn_wide (n := n)).1 ?_
   have BZ := Ho.mk (And.intro KZ.out.lt NK.out.1)
   have BX := Ho.mk (And.intro FX.out.lt NK.out.2.1)
   have BY := Ho.mk (And.intro FY.out.lt NK.out.2.2)
   refine Yi.held_wide (S := fun w' => ∀ k, k < W.heap.size → k ∉ ks → w'.heap[k]? = wr.heap[k]?) (by kernel_rfl) (fun _ _ _ => rfl) (fun hHeld => ?_)
   (try dsimp only at hHeld)
   refine Yi.wt (i := 0) hHeld ?_
   refine Yi.wt (i := 1) hHeld ?_
   refine Yi.wt (i := 2) hHeld ?_
   refine Yi.wl (i := 3) (v := ?_) hHeld (fun w' hSw => ?_) ?_
   rotate_left
   ·(have z0 := cellS hSw BZ.out.1 BZ.out.2 y0; go_simp; try (with_reducible rfl))
   refine Yi.wt (i := 4) hHeld ?_
   refine Yi.wt (i := 5) hHeld ?_
   refine Yi.wl (i := 6) (v := ?_) hHeld (fun w' hSw => ?_) ?_
   rotate_left
   ·(have z0 := cellS hSw BX.out.1 BX.out.2 x0; go_simp; try (with_reducible rfl))
   refine Yi.wt (i := 7) hHeld ?_
   refine Yi.wl (i := 8) (v := ?_) hHeld (fun w' hSw => ?_) ?_
   rotate_left
   ·(have z0 := cellS hSw BZ.out.1 BZ.out.2 y1; go_simp; try (with_reducible rfl))
   refine Yi.wt (i := 9) hHeld ?_
   refine Yi.wt (i := 10) hHeld ?_
   refine Yi.wl (i := 11) (v := ?_) hHeld (fun w' hSw => ?_) ?_
   rotate_left
   ·(have z0 := cellS hSw BY.out.1 BY.out.2 x1; go_simp; try (with_reducible rfl))
   refine Yi.wt (i := 12) hHeld ?_
   refine Yi.wl (i := 13) (v := ?_) hHeld (fun w' hSw => ?_) ?_
   rotate_left
   ·(have z0 := cellS hSw BZ.out.1 BZ.out.2 y0; go_simp; try (with_reducible rfl))
   refine Yi.wt (i := 14) hHeld ?_
   refine Yi.wt (i := 15) hHeld ?_
   refine Yi.wt (i := 16) hHeld ?_
   refine Yi.wt (i := 17) hHeld ?_
   refine Yi.wl (i := 18) (v := ?_) hHeld (fun w' hSw => ?_) ?_
   rotate_left
   ·(have z0 := cellS hSw BX.out.1 BX.out.2 x2; go_simp; try (with_reducible rfl))
   refine Yi.wt (i := 19) hHeld ?_
   refine Yi.wl (i := 20) (v := ?_) hHeld (fun w' hSw => ?_) ?_
   rotate_left
   ·(have z0 := cellS hSw BZ.out.1 BZ.out.2 y1; go_simp; try (with_reducible rfl))
   refine Yi.wt (i := 21) hHeld ?_
   refine Yi.wt (i := 22) hHeld ?_
   refine Yi.wt (i := 23) hHeld ?_
   refine Yi.wt (i := 24) hHeld ?_
   refine Yi.wl (i := 25) (v := ?_) hHeld (fun w' hSw => ?_) ?_
   rotate_left
   ·(have z0 := cellS hSw BY.out.1 BY.out.2 x3; go_simp; try (with_reducible rfl))
   refine Yi.wt (i := 26) hHeld ?_
   try simp only [Act.put, Ow.zS, Ow.zC, Ow.zD]
   refine Yi.wc (i := 27) (fun K hK => ?_)
   refine ⟨fun _ _ => trivial, ?_⟩
   rw [show Fence.wide.round = none from rfl, Oper.semAt_none]
   go_simp
   refine HR.out.mono ?_
   have keepS : ∀ w4, Yd ks O W.heap.size wr.drew w4 → ∀ k, k < W.heap.size → k ∉ ks → w4.heap[k]? = wr.heap[k]? := fun w4 g k h1 h2 => by
    rcases g.block k (Nat.lt_of_lt_of_le h1 hw.out.size) with q | ⟨_, _, q | q⟩
    ·exact q
    ·exact (h2 q).elim
    ·omega
   rintro e w4 (⟨rfl, hJ4, hY4⟩ | ⟨rfl, hJ4, hY4⟩)
   ·have HJ := Ho.mk hJ4
    have HW := Ho.mk ((hw.out.bel (Bel.refl wr).drew).yd hY4)
    have HS := keepS _ hY4
    clear hJ4 hY4 hy keepS
    refine hK.out _ _ HS (fun hHeld => ?_)
    clear hK K HS
    refine Yi.wt (i := 28) hHeld ?_
    refine Yi.wdone (by kernel_rfl) ?_ _
    go_wp2_with fail
    go_roundw
    case rel => exact ⟨k + 1, _, O, rfl, ⟨by have := hp.out; rw [List.length_append, List.length_singleton]; omega⟩, by omega, by omega, HJ, HW, hO⟩
    case measure => simp [intOf]; omega
   ·have HJ := Ho.mk hJ4
    have HS := keepS _ hY4
    clear hJ4 hY4 hy keepS
    refine hK.out _ _ HS (fun hHeld => ?_)
    clear hK K HS
    refine Yi.wt (i := 28) hHeld ?_
    refine Yi.wdone (by kernel_rfl) ?_ _
    go_wp2_with fail
    refine bodyPost_ret (results_none rfl _ _ _) rfl ?_
    exact ⟨⟨_, rfl⟩, .inr ⟨_, O, trivial, HJ.out, hO.out⟩⟩
  ·obtain rfl : k = m := by omega
   gi_wp2
   go_end0
   first | exact ⟨⟨_, rfl⟩, .inl ⟨_, O, by have := hp.out; omega, hj.out, hO.out⟩⟩
theorem dEndsP {A B : Option Addr} {m m' c c' : Nat} (w : World) :
  Calls Tryz.prog 124 #[.agg #[.slice A m c, .slice B m' c']] w
   (fun e w' => e = .returned (.func (.func 143) #[] #[.pointer (some ⟨w.heap.size, 0, none⟩)]) ∧ w' = w.alloc (.cells #[.slice A m c, .slice B m' c'] 46)) := by
 go_enter Tryz.func124, Tryz.ntmps124
 go_wp2
 refine bodyPost_ret (results_tmp rfl _ _ _) rfl ?_
 simp
end Y4
namespace Pn
open Ieee Go Gp Gq Gr G9 W0 W1 W2 Pc
def ov (p x : Nat) : Nat := fdiv x (P2 (1023 + p))
end Pn
namespace Y1
open Ieee Go Gp Gq Gr G9 U0 W0 W1 W2 M0 M1 M2 M3 Pc Pn
section
variable {α : Type} (O : Ops α)
def binG (w : Nat × Nat) (x0 x1 x2 x3 : α) : α × α :=
 let t := cturn O (O.mul (O.add x1 x3) (O.lit halfW)) (O.mul (O.add (O.neg x0) x2) (O.lit halfW)) (O.lit w.1) (O.lit w.2)
 (O.add (O.mul (O.add x0 x2) (O.lit halfW)) t.1, O.add (O.mul (O.add x1 (O.neg x3)) (O.lit halfW)) t.2)
def packAt (tab : Nat → Nat × Nat) (m : Nat) (z : List α × List α) (i : Nat) : α :=
 if i = 0 then O.add (nthG O z.1 0) (nthG O z.2 0)
 else if i = 1 then O.sub (nthG O z.1 0) (nthG O z.2 0)
 else if i % 2 = 0 then (binG O (tab (i / 2)) (nthG O z.1 (i / 2)) (nthG O z.2 (i / 2)) (nthG O z.1 (m - i / 2)) (nthG O z.2 (m - i / 2))).1
 else (binG O (tab (i / 2)) (nthG O z.1 (i / 2)) (nthG O z.2 (i / 2)) (nthG O z.1 (m - i / 2)) (nthG O z.2 (m - i / 2))).2
end
def rfftZ (p : Nat) (X : List Nat) : List Nat × List Nat := intoN (p - 1) (evenG opsN X, oddG opsN X)
def rfftN (p : Nat) (X : List Nat) : List Nat := (List.range (2 ^ p)).map (packAt opsN (tabW p) (2 ^ (p - 1)) (rfftZ p X))
theorem rfftN_len (p : Nat) (X : List Nat) : (rfftN p X).length = 2 ^ p := by simp [rfftN]
theorem half_P2 : halfW = P2 (1023 - 1) := by decide +kernel
theorem half_nm : Nm halfW := by rw [half_P2]; exact (P2_facts (by decide) (by decide)).1
theorem two_half {p : Nat} (h : 1 ≤ p) : 2 ^ p = 2 * 2 ^ (p - 1) := by rw [← two_pow, show p - 1 + 1 = p by omega]
end Y1
namespace Y5
open Ieee Go Go.RowKit Go.Proofs Go.Proofs.YtalbgklfhabnkaaGreatDoor Ow Dt Gp I0 U0 W0 S4 S6 P0 M0 M1 M3 W4 W5 V2 P4 Y3 Yh Y4 Y1 P8 Pc
open Go.Proofs.YtalbgklfhabnkaaGreatDoor.V1 (NI St ni_same ni_loop St.refl St.of_bel blk_keep ni_blk put_st)
open Go.Proofs.YtalbgklfhabnkaaGreatDoor.C6 (leaveAny)
open Go.Proofs.YtalbgklfhabnkaaGreatDoor.Pg (In)
attribute [local go_sem ↓] Go.wp_at_zero Go.wp_at_succ
attribute [local go_sem] Oper.semAt_some
theorem log_pow : ∀ p : Fin 8, logI (2 ^ p.val) = (p.val : Int) := by decide +kernel
theorem logI_pow {n p : Nat} (h : n = 2 ^ p) (hp : p ≤ 7) : logI n = (p : Int) := by subst h; exact log_pow ⟨p, by omega⟩
theorem fk_zero {w : World} {b N : Nat} (K : Blk w b 22 (List.replicate N (.float .f64 0))) : Fk w b (List.replicate N 0) :=
 ⟨_, K, by simp, fun j v hv => by
  rw [List.getElem?_replicate] at hv
  split at hv
  ·rename_i h
   cases hv
   exact ⟨0, rfl, by decide, by simp [nthN, List.getD_eq_getElem?_getD, List.getElem?_replicate, h, cn_zero]⟩
  ·cases hv⟩
def upTo (f : Nat → Nat) (n k : Nat) : List Nat := (List.range n).map fun i => if i < k then f i else 0
theorem upTo_len (f : Nat → Nat) (n k : Nat) : (upTo f n k).length = n := by simp [upTo]
theorem upTo_zero (f : Nat → Nat) (n : Nat) : upTo f n 0 = List.replicate n 0 := by
 apply List.ext_getElem (by simp [upTo])
 intro i h1 h2
 simp [upTo]
theorem upTo_all (f : Nat → Nat) (n : Nat) : upTo f n n = (List.range n).map f := by
 apply List.ext_getElem (by simp [upTo])
 intro i h1 h2
 have : i < n := by simpa [upTo] using h1
 simp [upTo, this]
theorem upTo_two (f : Nat → Nat) {n k : Nat} (h : 2 * k + 1 < n) {a b : Nat} (ha : a = f (2 * k)) (hb : b = f (2 * k + 1)) : ((upTo f n (2 * k)).set (2 * k) a).set (2 * k + 1) b = upTo f n (2 * (k + 1)) := by
 subst ha; subst hb
 apply List.ext_getElem (by simp [upTo])
 intro i h1 h2
 simp only [upTo, List.getElem_set, List.getElem_map, List.getElem_range]
 by_cases e1 : 2 * k + 1 = i
 ·subst e1; rw [if_pos rfl, if_pos (by omega)]
 ·rw [if_neg e1]
  by_cases e2 : 2 * k = i
  ·subst e2; rw [if_pos rfl, if_pos (by omega)]
  ·rw [if_neg e2]
   by_cases h3 : i < 2 * k
   ·rw [if_pos h3, if_pos (by omega)]
   ·rw [if_neg h3, if_neg (by omega)]
def frm (u : Nat → Value) (pz po pp pw pk px : Value) : Act := { tmps := #[u 0, u 1, u 2, u 3, u 4, pz, po, pp, u 8, u 9, u 10, u 11, pw, pk, px, u 15, u 16, u 17, u 18, u 19, u 20, u 21, u 22, u 23, u 24, u 25, u 26, u 27, u 28, u 29, u 30, u 31, u 32, u 33, u 34, u 35, u 36, u 37, u 38, u 39, u 40, u 41, u 42, u 43, u 44, u 45, u 46, u 47, u 48, u 49, u 50, u 51, u 52, u 53, u 54, u 55, u 56, u 57, u 58, u 59, u 60, u 61, u 62, u 63, u 64, u 65, u 66, u 67, u 68, u 69, u 70, u 71, u 72, u 73, u 74, u 75, u 76, u 77, u 78, u 79, u 80, u 81, u 82, u 83, u 84, u 85, u 86, u 87, u 88, u 89, u 90, u 91, u 92, u 93, u 94, u 95, u 96, u 97, u 98, u 99, u 100, u 101, u 102, u 103, u 104, u 105, u 106, u 107, u 108, u 109, u 110, u 111, u 112, u 113, u 114, u 115, u 116, u 117, u 118, u 119, u 120, u 121, u 122, u 123, u 124, u 125, u 126, u 127, u 128, u 129, u 130, u 131, u 132, u 133, u 134, u 135, u 136, u 137, u 138, u 139, u 140], defers := [] }
theorem frm_mk {a : Act} {pz po pp pw pk px : Value} (h : a = frm (fun i => a.tmps.getD i undef) pz po pp pw pk px) : ∃ u, a = frm u pz po pp pw pk px := ⟨_, h⟩
theorem bin_law {wd : Nat × Nat} {xa xb xc xd r1 s1 r2 s2 r3 s3 r4 s4 r5 s5 r6 s6 c5 d5 X0 X1 X2 X3 : Nat} (la : xa < 2 * sgnW) (ld : xd < 2 * sgnW) (ha : cn xa = X0) (hb : cn xb = X1) (hc : cn xc = X2) (hd : cn xd = X3)
  (h1 : cn r1 = fadd (cn xa) (cn xc) ∧ cn s1 = fadd (cn xb) (cn (Op.negFloat .f64 xd))) (h2 : cn r2 = fadd (cn xb) (cn xd) ∧ cn s2 = fadd (cn (Op.negFloat .f64 xa)) (cn xc))
  (h3 : cn r3 = fmul (cn r1) (cn 4602678819172646912) ∧ cn s3 = fmul (cn s1) (cn 4602678819172646912)) (h4 : cn r4 = fmul (cn r2) (cn 4602678819172646912) ∧ cn s4 = fmul (cn s2) (cn 4602678819172646912))
  (hw : cn c5 = wd.1 ∧ cn d5 = wd.2) (h5 : cn r5 = fadd (fmul (cn r4) (cn c5)) (fmul (cn s4) (cn d5)) ∧ cn s5 = fsub (fmul (cn s4) (cn c5)) (fmul (cn r4) (cn d5)))
  (h6 : cn r6 = fadd (cn r3) (cn r5) ∧ cn s6 = fadd (cn s3) (cn s5)) : cn r6 = (binG opsN wd X0 X1 X2 X3).1 ∧ cn s6 = (binG opsN wd X0 X1 X2 X3).2 := by
 have eh : cn 4602678819172646912 = halfW := by decide +kernel
 rw [neg_cn ld] at h1
 rw [neg_cn la] at h2
 rw [eh] at h3 h4
 rw [h6.1, h6.2, h3.1, h3.2, h5.1, h5.2, h4.1, h4.2, h1.1, h1.2, h2.1, h2.2, hw.1, hw.2, ha, hb, hc, hd]
 exact ⟨rfl, rfl⟩
theorem pack_at {p m k : Nat} {Z : List Nat × List Nat} (hk : 1 ≤ k) : packAt opsN (tabW p) m Z (2 * k) = (binG opsN (tabW p k) (nthN Z.1 k) (nthN Z.2 k) (nthN Z.1 (m - k)) (nthN Z.2 (m - k))).1 ∧ packAt opsN (tabW p) m Z (2 * k + 1) = (binG opsN (tabW p k) (nthN Z.1 k) (nthN Z.2 k) (nthN Z.1 (m - k)) (nthN Z.2 (m - k))).2 := by
 unfold packAt
 constructor
 ·rw [if_neg (by omega), if_neg (by omega), if_pos (by omega), show 2 * k / 2 = k by omega]; rfl
 ·rw [if_neg (by omega), if_neg (by omega), if_neg (by omega), show (2 * k + 1) / 2 = k by omega]; rfl
theorem dRfftOk {A : Option Addr} {c p : Nat} {X : List Nat} (w : World) (T : Tab w) (hx : In w (.slice A X.length c) X) (hp : X.length = 2 ^ p) (h1 : 1 ≤ p) (hp7 : p ≤ 7) :
  Calls Tryz.prog 84 #[.slice A X.length c] w fun e w' => ∃ b, e = .returned (.tuple #[.slice (some ⟨b, 0, none⟩) X.length X.length, .int .i64 0]) ∧ Fk w' b (rfftN p X) ∧ w.heap.size ≤ b ∧ Bel w w' := by
 obtain ⟨m, hm⟩ : ∃ m, m = 2 ^ (p - 1) := ⟨_, rfl⟩
 have hn2 : X.length = 2 * m := by rw [hm, ← two_half h1]; exact hp
 have hm1 : 1 ≤ m := by rw [hm]; exact Nat.two_pow_pos _
 have hm0 : 0 < m := hm1
 have hn128 : X.length ≤ 128 := by rw [hp]; exact Nat.le_trans (Nat.pow_le_pow_right (by decide) hp7) (by decide)
 have hm64 : m ≤ 64 := by omega
 have HP := Ho.mk hp
 have HM := Ho.mk hm
 have HN2 := Ho.mk hn2
 have TT := Ho.mk T
 have HX := Ho.mk hx
 have C0 := dLogR (n := X.length) rfl w (by omega) T
 rw [logI_pow hp hp7] at C0
 have C0 := Ho.mk C0
 have C1 := Ho.mk (dEven w hx (by omega))
 have lE : (M2.evenG opsN X).length = m := by rw [M2.evenG_len]; omega
 have lO : (M2.oddG opsN X).length = m := by rw [M2.oddG_len]; omega
 obtain ⟨Ze, hZe⟩ : ∃ Ze, Ze = M2.evenG opsN X := ⟨_, rfl⟩
 obtain ⟨Zo, hZo⟩ : ∃ Zo, Zo = M2.oddG opsN X := ⟨_, rfl⟩
 rw [← hZe] at lE C1
 rw [← hZo] at lO
 have HZ := Ho.mk (And.intro hZe hZo)
 have LE := Ho.mk lE
 have LO := Ho.mk lO
 clear hp hm T hx hZe hZo lE lO hn2
 refine (callsIn_wide (n := 3)).1 ?_
 refine callsIn_of_wp_marks Tryz.func84 rfl trivial ?_ rfl
 simp only [Tryz.ntmps84, List.size_toArray, List.length_cons, List.length_nil, Nat.reduceAdd, Nat.reduceSub, Array.replicate_succ, Array.replicate_zero, List.push_toArray, List.append_toArray, List.nil_append, List.cons_append]
 refine wpIn_wide.2 ?_
 go_wp2_with fail
 (with_reducible refine C0.out.mono ?_); rintro e w0 ⟨rfl, rfl⟩
 clear C0
 go_wp2_with fail
 (with_reducible refine C1.out.mono ?_); rintro e w1 ⟨A1, cE, rfl, g1, b1⟩
 obtain ⟨bE, cq, e, hcE, hcE2, H⟩ := (Hp.nil (Bel.refl w)).rowF b1 (Og.rowF g1.1 g1.2) (by rw [LE.out]; exact hm1)
 rw [LE.out] at e hcE ⊢
 cases e
 replace H := Ho.mk H
 have CE := Ho.mk (And.intro hcE hcE2)
 have C2 := dOdd w1 (HX.out.bel b1) (by omega)
 rw [← HZ.out.2] at C2
 have C2 := Ho.mk C2
 clear C1 g1 b1 hcE hcE2
 go_wp2_with fail
 (with_reducible refine C2.out.mono ?_); rintro e w2 ⟨A1, cO, rfl, g1, b1⟩
 obtain ⟨bO, cq, e, hcO, hcO2, H⟩ := H.out.rowF b1 (Og.rowF g1.1 g1.2) (by rw [LO.out]; exact hm1)
 rw [LO.out] at e hcO ⊢
 cases e
 replace H := Ho.mk H
 have CO := Ho.mk (And.intro hcO hcO2)
 clear C2 g1 b1 hcO hcO2
 go_upto_region 5 with fail
 replace H := Ho.mk (H.out.box [.slice (some ⟨bE, 0, none⟩) m cE, .slice (some ⟨bO, 0, none⟩) m cO] 46)
 generalize w2.alloc (.cells #[.slice (some ⟨bE, 0, none⟩) m cE, .slice (some ⟨bO, 0, none⟩) m cO] 46) = w3 at *
 generalize w2.heap.size = bz at *
 obtain ⟨y0, y1⟩ := (H.out.blk 0 rfl).c2
 have C3 := Ho.mk (dInto (p := p - 1) (N := m) w3 (TT.out.bel H.out.bel) (H.out.row 2 rfl) (H.out.row 1 rfl) (H.out.ne 2 1 rfl rfl) HM.out LE.out LO.out (by omega) CE.out.1 CO.out.1 CE.out.2 CO.out.2)
 go_wp2_with fail
 (with_reducible refine C3.out.mono ?_); rintro e w4 ⟨rfl, f1, f2, G⟩
 replace H := Ho.mk (H.out.gr2 2 1 rfl rfl G (by decide) f1 f2)
 simp only [List.set_cons_zero, List.set_cons_succ] at H
 obtain ⟨Z, hZ⟩ : ∃ Z, Z = intoG opsN (bitsG (p - 1)) (p - 1) (tabW (p - 1)) (Ze, Zo) := ⟨_, rfl⟩
 rw [← hZ] at H
 have ZR := Ho.mk (show Z = rfftZ p X by unfold rfftZ intoN; rw [← HZ.out.1, ← HZ.out.2]; exact hZ)
 have ZL := Ho.mk (show Z.1.length = m ∧ Z.2.length = m by rw [hZ]; have := intoN_len (p := p - 1) (st := (Ze, Zo)) (by rw [← HM.out]; exact LE.out) (by rw [← HM.out]; exact LO.out); rw [← HM.out] at this; exact this)
 clear C3 f1 f2 G hZ y0 y1
 go_wp2_with (at_make; refine wpList_mk _ rfl _ _ 157 rfl 22 (.float .f64 0) 8 Tryz.underlying157 infoF rfl X.length rfl rfl (by omega) (by omega) ?_; intro w5 hk5 hb5 hs5)
 replace H := Ho.mk (H.out.new (e := .whole w4.heap.size (List.replicate X.length 0)) hb5 (fk_zero hk5) (Nat.le_refl _))
 clear hk5 hb5
 generalize w4.heap.size = bo at *
 replace H := Ho.mk (H.out.box [.func (.func 121) #[.slice (some ⟨bo, 0, none⟩) X.length X.length] #[]] 158)
 rw [hs5] at H
 clear hs5
 generalize w5.alloc (.cells #[.func (.func 121) #[.slice (some ⟨bo, 0, none⟩) X.length X.length] #[]] 158) = w6 at *
 have ZL1 := ZL.out.1
 have ZL2 := ZL.out.2
 obtain ⟨y0, y1⟩ := (H.out.blk 2 rfl).c2
 obtain ⟨r0, x0, l0, c0⟩ := (H.out.row 4 rfl).at_ (i := 0) (by omega)
 obtain ⟨r1, x1, l1, c1⟩ := (H.out.row 3 rfl).at_ (i := 0) (by omega)
 have RL := Ho.mk (And.intro (And.intro l0 c0) (And.intro l1 c1))
 have AD := Ho.mk (fun w => P2.dCAdd w RL.out.1.1 (show 0 < 2 * sgnW by decide) RL.out.2.1 (show 0 < 2 * sgnW by decide))
 have SU := Ho.mk (fun w => P2.dCSub w RL.out.1.1 (show 0 < 2 * sgnW by decide) RL.out.2.1 (show 0 < 2 * sgnW by decide))
 clear l0 c0 l1 c1 ZL1 ZL2
 refine then_falseW ?_
 refine wp_region_held_drew (S := fun w' => Bel w6 w') (by kernel_rfl) (Bel.refl _).drew (fun hHeld => ?_)
 (try dsimp only at hHeld)
 refine rt (i := 0) hHeld ?_
 refine rl (i := 1) (v := ?_) hHeld (fun w' hSw => ?_) ?_
 rotate_left
 ·(have z0 := hSw.cell y0; go_simp; try (with_reducible rfl))
 refine rt (i := 2) hHeld ?_
 refine rl (i := 3) (v := ?_) hHeld (fun w' hSw => ?_) ?_
 rotate_left
 ·(have z0 := hSw.cell x0; go_simp; try (with_reducible rfl))
 refine rt (i := 4) hHeld ?_
 refine rl (i := 5) (v := ?_) hHeld (fun w' hSw => ?_) ?_
 rotate_left
 ·(have z0 := hSw.cell y1; go_simp; try (with_reducible rfl))
 refine rt (i := 6) hHeld ?_
 refine rl (i := 7) (v := ?_) hHeld (fun w' hSw => ?_) ?_
 rotate_left
 ·(have z0 := hSw.cell x1; go_simp; try (with_reducible rfl))
 try simp only [Act.put, Ow.zS, Ow.zC, Ow.zD]
 refine rc (i := 8) (fun K hK => ?_)
 go_simp
 go_at_call 122
 (with_reducible refine (AD.out _).mono ?_); rintro e wqa ⟨ra, sa, rfl, la, ca, bqa⟩
 try go_wp2_with fail
 refine hK.out _ _ (Bel.trans hHeld bqa) (fun hHeld => ?_)
 clear hK K
 refine rt (i := 9) hHeld ?_
 refine rt (i := 10) hHeld ?_
 refine rt (i := 11) hHeld ?_
 refine rt (i := 12) hHeld ?_
 refine rt (i := 13) hHeld ?_
 try simp only [Act.put, Ow.zS, Ow.zC, Ow.zD]
 refine wpAnyH_done (by kernel_rfl) ?_ _
 have Ha := Ho.mk (And.intro la.1 ca.1)
 have BQa := Ho.mk ((Bel.refl w6).drew.trans bqa)
 clear la ca hHeld
 have y0 := BQa.out.cell y0
 have y1 := BQa.out.cell y1
 have x0 := BQa.out.cell x0
 have x1 := BQa.out.cell x1
 go_upto_region 9 with fail
 refine then_falseW ?_
 refine wp_region_held_drew (S := fun w' => Bel wqa w') (by kernel_rfl) (Bel.refl _).drew (fun hHeld => ?_)
 (try dsimp only at hHeld)
 refine rt (i := 0) hHeld ?_
 refine rl (i := 1) (v := ?_) hHeld (fun w' hSw => ?_) ?_
 rotate_left
 ·(have z0 := hSw.cell y0; go_simp; try (with_reducible rfl))
 refine rt (i := 2) hHeld ?_
 refine rl (i := 3) (v := ?_) hHeld (fun w' hSw => ?_) ?_
 rotate_left
 ·(have z0 := hSw.cell x0; go_simp; try (with_reducible rfl))
 refine rt (i := 4) hHeld ?_
 refine rl (i := 5) (v := ?_) hHeld (fun w' hSw => ?_) ?_
 rotate_left
 ·(have z0 := hSw.cell y1; go_simp; try (with_reducible rfl))
 refine rt (i := 6) hHeld ?_
 refine rl (i := 7) (v := ?_) hHeld (fun w' hSw => ?_) ?_
 rotate_left
 ·(have z0 := hSw.cell x1; go_simp; try (with_reducible rfl))
 try simp only [Act.put, Ow.zS, Ow.zC, Ow.zD]
 refine rc (i := 8) (fun K hK => ?_)
 go_simp
 go_at_call 123
 (with_reducible refine (SU.out _).mono ?_); rintro e wqb ⟨rb, sb, rfl, lb, cb, bqb⟩
 try go_wp2_with fail
 refine hK.out _ _ (Bel.trans hHeld bqb) (fun hHeld => ?_)
 clear hK K
 refine rt (i := 9) hHeld ?_
 refine rt (i := 10) hHeld ?_
 refine rt (i := 11) hHeld ?_
 refine rt (i := 12) hHeld ?_
 refine rt (i := 13) hHeld ?_
 try simp only [Act.put, Ow.zS, Ow.zC, Ow.zD]
 refine wpAnyH_done (by kernel_rfl) ?_ _
 have Hb := Ho.mk (And.intro lb.1 cb.1)
 have BQb := Ho.mk ((Bel.refl wqa).drew.trans bqb)
 clear lb cb hHeld
 replace H := Ho.mk ((H.out.grow BQa.out).grow BQb.out)
 clear y0 y1 x0 x1 AD SU BQa BQb
 have y0 := (H.out.blk 0 rfl).cell (i := 0) rfl
 have PU := Ho.mk (dPut (n := X.length) (c := X.length) (k := 0) wqb (H.out.whole 1 rfl) (by have := HN2.out; omega) List.length_replicate (by omega) Ha.out.1 Hb.out.1)
 go_wp2_with fail
 (refine PU.out.mono ?_); rintro e w7 ⟨rfl, f1, G⟩
 replace H := Ho.mk (H.out.grW 1 rfl G f1)
 simp only [List.set_cons_zero, List.set_cons_succ] at H
 obtain ⟨pf, hpf⟩ : ∃ pf, pf = packAt opsN (tabW p) m Z := ⟨_, rfl⟩
 have e0 : cn ra = pf (2 * 0) := by rw [hpf, Ha.out.2, RL.out.1.2, RL.out.2.2]; rfl
 have e1 : cn rb = pf (2 * 0 + 1) := by rw [hpf, Hb.out.2, RL.out.1.2, RL.out.2.2]; rfl
 have e2 := upTo_two pf (n := X.length) (k := 0) (by have := HN2.out; omega) e0 e1
 rw [upTo_zero] at e2
 rw [e2] at H
 have HPF := Ho.mk hpf
 have TB := Ho.mk (dTable (q := p) (m := m) (qi := (p : Int)) (mi := (m : Int)) w7 (TT.out.bel H.out.bel) rfl (by omega) rfl (by omega))
 have ed : (X.length : Int).tdiv 2 = (m : Int) := by rw [HN2.out, Int.tdiv_eq_ediv_of_nonneg (by omega)]; omega
 clear f1 G hpf e0 e1 e2 PU y0
 go_wp2_with fail
 (with_reducible refine TB.out.mono ?_); rintro e w8 ⟨b1, b2, rfl, f1, f2, le1, lt2, bt⟩
 replace H := Ho.mk (H.out.comb (Hp.two bt f1 f2 le1 lt2))
 simp only [List.cons_append, List.nil_append] at H
 clear f1 f2 le1 lt2 bt TB
 go_upto_region 12 with fail
 replace H := Ho.mk (H.out.box [.slice (some ⟨b1, 0, none⟩) m m, .slice (some ⟨b2, 0, none⟩) m m] 46)
 generalize w8.alloc (.cells #[.slice (some ⟨b1, 0, none⟩) m m, .slice (some ⟨b2, 0, none⟩) m m] 46) = w9 at *
 generalize w8.heap.size = bw at *
 obtain ⟨y0, y1⟩ := (H.out.blk 5 rfl).c2
 have EN := Ho.mk (dEndsP (A := some ⟨bE, 0, none⟩) (B := some ⟨bO, 0, none⟩) (m := m) (m' := m) (c := cE) (c' := cO) w9)
 go_wp2_with fail
 (with_reducible refine EN.out.mono ?_); rintro e w10 ⟨rfl, rfl⟩
 clear EN y0 y1
 replace H := Ho.mk (H.out.box [.slice (some ⟨bE, 0, none⟩) m cE, .slice (some ⟨bO, 0, none⟩) m cO] 46)
 generalize w9.alloc (.cells #[.slice (some ⟨bE, 0, none⟩) m cE, .slice (some ⟨bO, 0, none⟩) m cO] 46) = w10 at *
 generalize w9.heap.size = bs at *
 go_wp2_with fail
 have HB := Ho.mk H.out.bel
 have HBs := HB.out.size
 refine (wpIn_wide (n := 3)).1 ?_
 refine rangeB (α := E4) (encs := encE) (bs := [bo]) (N := m - 1) (Bd := False) (Px := fun pre x _ => x.k = pre.length + 1 ∧ x.Ok Z.1 Z.2 m) (S := fun zs => zs.length = m - 1) (Sp := fun _ => True)
  (by omega) rfl (fun args w => by rfl) (fun x => by rfl) (by intro k hk; simp at hk; subst hk; have q := H.out.ltI 5 rfl; exact q) ?_
  (fun pre O W => Hp w W ([.blk bs 46 [.slice (some ⟨bE, 0, none⟩) m cE, .slice (some ⟨bO, 0, none⟩) m cO], .blk bw 46 [.slice (some ⟨b1, 0, none⟩) m m, .slice (some ⟨b2, 0, none⟩) m m], .whole b1 ((List.range m).map fun k => (tabW p k).1), .whole b2 ((List.range m).map fun k => (tabW p k).2), .blk (bo + 1) 158 [.func (.func 121) #[.slice (some ⟨bo, 0, none⟩) X.length X.length] #[]], .whole bo (upTo pf X.length (2 * (pre.length + 1))), .blk bz 46 [.slice (some ⟨bE, 0, none⟩) m cE, .slice (some ⟨bO, 0, none⟩) m cO], .row bO Z.2, .row bE Z.1]) ∧ w10.heap.size ≤ W.heap.size ∧ ∀ k ∈ O, w10.heap.size ≤ k ∧ k < W.heap.size) (fun _ _ _ _ => False) (fun h => h.elim) (fun pre => hp_abides (by intro e he; simp at he; rcases he with rfl | rfl | rfl | rfl | rfl | rfl | rfl | rfl | rfl <;> first | (have q := H.out.ltI 0 rfl; exact q) | (have q := H.out.ltI 1 rfl; exact q) | (have q := H.out.ltI 2 rfl; exact q) | (have q := H.out.ltI 3 rfl; exact q) | (have q := H.out.ltI 4 rfl; exact q) | (have q := H.out.ltI 5 rfl; exact q) | (have q := H.out.ltI 6 rfl; exact q) | (have q := H.out.ltI 7 rfl; exact q) | (have q := H.out.ltI 8 rfl; exact q)) HBs) (fun _ _ _ _ _ _ h => h.elim) ?_
  (fun pre x a' W => ∃ kb, (∃ u, a' = frm u (.pointer (some ⟨bz, 0, none⟩)) (.slice (some ⟨bo, 0, none⟩) X.length X.length) (.pointer (some ⟨bo + 1, 0, none⟩)) (.pointer (some ⟨bw, 0, none⟩)) (.int .i64 (x.k : Int)) (.pointer (some ⟨kb, 0, none⟩))) ∧ Blk W kb 162 [.float .f64 x.a, .float .f64 x.b, .float .f64 x.c, .float .f64 x.d] ∧ x.k = pre.length + 1 ∧ x.Ok Z.1 Z.2 m) ?_ ?_ ?_ ?_ ?_
 ·-- the iterator's promise
  intro W hW hBW
  refine ends1 (m := m) (c := cE) (c' := cO) W (H.out.grow hBW |>.blk 0 rfl) ((H.out.grow hBW).row 8 rfl) ((H.out.grow hBW).row 7 rfl) ZL.out.1 ZL.out.2 hm1 (by omega) _ _ W _ (by omega) (Bel.refl W) ?_
  intro k hk
  simp at hk
  have n1 : bo ≠ bs := by have q := H.out.ne 5 0 rfl rfl; exact q
  have n2 : bo ≠ bE := by have q := H.out.ne 5 8 rfl rfl; exact q
  have n3 : bo ≠ bO := by have q := H.out.ne 5 7 rfl rfl; exact q
  have m1 : bs < w10.heap.size := by have q := H.out.ltI 0 rfl; exact q
  have m2 : bE < w10.heap.size := by have q := H.out.ltI 8 rfl; exact q
  have m3 : bO < w10.heap.size := by have q := H.out.ltI 7 rfl; exact q
  simp
  rcases hk with rfl | rfl
  ·exact ⟨n1, n2, n3⟩
  ·omega
 ·exact ⟨H.out, Nat.le_refl _, by simp⟩
 ·-- the loop's record
  rintro pre x a' V r o hr ⟨kb, hu, hk, h3⟩
  refine ⟨kb, hu, blk_keep hk (World.putObj_heap_other ?_), h3⟩
  rintro rfl
  have := hk.out
  rw [hr] at this; simp at this
 ·-- the loop's variables
  rintro l pre O x W K hI hsz hx hK
  simp [encE]
  gi_wp2
  refine hK _ _ ((Bel.refl W).alloc _) ⟨W.heap.size, frm_mk (by rfl), Blk.new W [.float .f64 x.a, .float .f64 x.b, .float .f64 x.c, .float .f64 x.d] _, hx.1, hx.2⟩
 ·-- a round
  rintro l pre O x a' W ⟨hH, hB, hO2⟩ hlen hsz ⟨kb, ⟨u, rfl⟩, hk, hxk, hxo⟩ hO hlO
  obtain ⟨xk, xa, xb, xc, xd⟩ := x
  dsimp only at hk hxk hxo ⊢
  subst hxk
  obtain ⟨⟨⟨la, lb⟩, lc, ld⟩, ⟨ca, cb⟩, cc, cd⟩ := hxo
  dsimp only at la lb lc ld ca cb cc cd
  have HK := Ho.mk hk
  have HH := Ho.mk hH
  have FW := Ho.mk (hH.whole 5 rfl)
  have HA := Ho.mk (And.intro (And.intro la lb) (And.intro lc ld))
  have HC := Ho.mk (And.intro (And.intro ca cb) (And.intro cc cd))
  have HO := Ho.mk hO2
  clear hk hH la lb lc ld ca cb cc cd hO2
  dsimp only [frm]
  refine wpIn_block ?_
  obtain ⟨x0, x1, x2, x3⟩ := (HK.out).c4
  have C1 := Ho.mk (P2.dCAdd W HA.out.1.1 HA.out.1.2 HA.out.2.1 (fng_lt' HA.out.2.2))
  gi_wp2_with fail
  refine ⟨by first | trivial | (intro h; cases h), (CallsIn.inRound l (callsIn_wide.2 C1.out)).mono ?_⟩
  rintro e v1 ⟨r1, s1, rfl, l1, c1, b1⟩
  have H1 := Ho.mk (And.intro l1 c1)
  have B1 := Ho.mk b1
  clear C1 l1 c1 b1
  clear x0 x1 x2 x3
  obtain ⟨x0, x1, x2, x3⟩ := (HK.out.bel B1.out).c4
  have C2 := Ho.mk (P2.dCAdd v1 HA.out.1.2 (fng_lt' HA.out.1.1) HA.out.2.2 HA.out.2.1)
  gi_wp2_with fail
  refine ⟨by first | trivial | (intro h; cases h), (CallsIn.inRound l (callsIn_wide.2 C2.out)).mono ?_⟩
  rintro e v2 ⟨r2, s2, rfl, l2, c2, b2⟩
  have H2 := Ho.mk (And.intro l2 c2)
  have B2 := Ho.mk b2
  clear C2 l2 c2 b2
  clear x0 x1 x2 x3
  have C3 := Ho.mk (P0.dHalf v2 H1.out.1.1 H1.out.1.2)
  gi_wp2_with fail
  refine ⟨by first | trivial | (intro h; cases h), (CallsIn.inRound l (callsIn_wide.2 C3.out)).mono ?_⟩
  rintro e v3 ⟨r3, s3, rfl, l3, c3, b3⟩
  have H3 := Ho.mk (And.intro l3 c3)
  have B3 := Ho.mk b3
  clear C3 l3 c3 b3
  have C4 := Ho.mk (P0.dHalf v3 H2.out.1.1 H2.out.1.2)
  gi_wp2_with fail
  refine ⟨by first | trivial | (intro h; cases h), (CallsIn.inRound l (callsIn_wide.2 C4.out)).mono ?_⟩
  rintro e v4 ⟨r4, s4, rfl, l4, c4, b4⟩
  have H4 := Ho.mk (And.intro l4 c4)
  have B4 := Ho.mk b4
  clear C4 l4 c4 b4
  have BB := Ho.mk (((B1.out.trans B2.out).trans B3.out).trans B4.out)
  replace HH := Ho.mk (HH.out.grow BB.out)
  obtain ⟨y0, y1⟩ := (HH.out.blk 1 rfl).c2
  obtain ⟨c5, x0, cl5, cc5⟩ := (HH.out.whole 2 rfl).at_ (i := pre.length + 1) (by simp; omega)
  obtain ⟨d5, x1, dl5, dc5⟩ := (HH.out.whole 3 rfl).at_ (i := pre.length + 1) (by simp; omega)
  rw [nthN_lt (by simp; omega)] at cc5 dc5
  simp only [List.getElem_map, List.getElem_range] at cc5 dc5
  have HW := Ho.mk (And.intro (And.intro cl5 dl5) (And.intro cc5 dc5))
  have hi1 : 0 ≤ (pre.length : Int) + 1 := by omega
  have hi2 : (pre.length : Int) + 1 < (m : Int) := by omega
  have C5 := Ho.mk (fun w => P2.dCTurn w H4.out.1.1 H4.out.1.2 HW.out.1.1 HW.out.1.2)
  clear cl5 dl5 cc5 dc5
  gi_wp2_with fail
  refine Yi.held_round (S := fun w' => Bel v4 w') (by kernel_rfl) (by intro o ho c e; simp at ho; rcases ho with rfl | rfl | rfl | rfl | rfl | rfl | rfl | rfl | rfl | rfl | rfl | rfl | rfl | rfl | rfl | rfl | rfl | rfl <;> cases e) (by rintro ⟨_, _, h⟩; exact h) (Bel.refl _).drew (fun hHeld => ?_)
  (try dsimp only at hHeld)
  refine rt (i := 0) hHeld ?_
  refine rt (i := 1) hHeld ?_
  refine rt (i := 2) hHeld ?_
  refine rl (i := 3) (v := ?_) hHeld (fun w' hSw => ?_) ?_
  rotate_left
  ·(have z0 := hSw.cell y0; go_simp; try (with_reducible rfl))
  refine rt (i := 4) hHeld ?_
  refine rt (i := 5) hHeld ?_
  refine rl (i := 6) (v := ?_) hHeld (fun w' hSw => ?_) ?_
  rotate_left
  ·(have z0 := hSw.cell x0; go_simp; try (with_reducible rfl))
  refine rt (i := 7) hHeld ?_
  refine rl (i := 8) (v := ?_) hHeld (fun w' hSw => ?_) ?_
  rotate_left
  ·(have z0 := hSw.cell y1; go_simp; try (with_reducible rfl))
  refine rt (i := 9) hHeld ?_
  refine rt (i := 10) hHeld ?_
  refine rl (i := 11) (v := ?_) hHeld (fun w' hSw => ?_) ?_
  rotate_left
  ·(have z0 := hSw.cell x1; go_simp; try (with_reducible rfl))
  try simp only [Act.put, Ow.zS, Ow.zC, Ow.zD]
  refine rc (i := 12) (fun K hK => ?_)
  go_simp
  go_at_call 93
  (with_reducible refine (C5.out _).mono ?_); rintro e v5 ⟨r5, s5, rfl, l5, c5', b5⟩
  try go_wp2_with fail
  refine hK.out _ _ (Bel.trans hHeld b5) (fun hHeld => ?_)
  clear hK K
  refine rt (i := 13) hHeld ?_
  refine rt (i := 14) hHeld ?_
  refine rt (i := 15) hHeld ?_
  refine rt (i := 16) hHeld ?_
  refine rt (i := 17) hHeld ?_
  try simp only [Act.put, Ow.zS, Ow.zC, Ow.zD]
  refine wpAnyH_done (by kernel_rfl) ?_ _
  have H5 := Ho.mk (And.intro l5 c5')
  have B5 := Ho.mk ((Bel.refl v4).drew.trans b5)
  replace HH := Ho.mk (HH.out.grow B5.out)
  clear y0 y1 x0 x1 l5 c5' C5 hHeld b5
  have C6 := Ho.mk (P2.dCAdd v5 H3.out.1.1 H3.out.1.2 H5.out.1.1 H5.out.1.2)
  gi_wp2_with fail
  refine ⟨by first | trivial | (intro h; cases h), (CallsIn.inRound l (callsIn_wide.2 C6.out)).mono ?_⟩
  rintro e v6 ⟨r6, s6, rfl, l6, c6, b6⟩
  have H6 := Ho.mk (And.intro l6 c6)
  replace HH := Ho.mk (HH.out.grow b6)
  replace BB := Ho.mk ((BB.out.trans B5.out).trans b6)
  clear C6 l6 c6 b6
  have y0 := (HH.out.blk 4 rfl).cell (i := 0) rfl
  have C7 := Ho.mk (dPut (n := X.length) (c := X.length) (k := pre.length + 1) v6 (HH.out.whole 5 rfl) (by have := HN2.out; omega) (upTo_len _ _ _) (by omega) H6.out.1.1 H6.out.1.2)
  gi_wp2_with fail
  refine ⟨by first | trivial | (intro h; cases h), (CallsIn.inRound l (callsIn_wide.2 C7.out)).mono ?_⟩
  rintro e v7 ⟨rfl, f7, G7⟩
  clear C7 y0
  gi_wp2_with fail
  have e8 := bin_law (wd := tabW p (pre.length + 1)) HA.out.1.1 HA.out.2.2 HC.out.1.1 HC.out.1.2 HC.out.2.1 HC.out.2.2 H1.out.2 H2.out.2 H3.out.2 H4.out.2 HW.out.2 H5.out.2 H6.out.2
  have e9 := pack_at (p := p) (m := m) (k := pre.length + 1) (Z := Z) (by omega)
  rw [← e9.1, ← e9.2, ← HPF.out] at e8
  have e2 := upTo_two pf (n := X.length) (k := pre.length + 1) (by have := HN2.out; omega) e8.1 e8.2
  have HF := HH.out.grW 5 rfl G7 f7
  simp only [List.set_cons_zero, List.set_cons_succ] at HF
  rw [e2] at HF
  have q5 := H.out.ltI 5 rfl
  have q6 : bo < w10.heap.size := q5
  refine ⟨yd_gr ((BB.out.gr bo).trans G7) FW.out (by simp) (fun q => by have := (HO.out _ q).1; omega), ?_, ?_, ?_⟩
  ·rw [List.length_append, List.length_singleton]; exact HF
  ·have := BB.out.size; have := G7.size; omega
  ·intro k hk
   have := HO.out k hk; have := BB.out.size; have := G7.size
   omega
 ·-- all have come
  rintro zs O W hsz hzs ⟨hH, hB, hO2⟩ hd
  have F := hH.whole 5 rfl
  have G5 := hH.geI 5 rfl
  have G6 : w.heap.size ≤ bo := G5
  have q5 := H.out.ltI 5 rfl
  have q6 : bo < w10.heap.size := q5
  rw [hzs, show 2 * (m - 1 + 1) = X.length by have := HN2.out; omega, upTo_all] at F
  have eR : (List.range X.length).map pf = rfftN p X := by unfold rfftN; rw [HPF.out, ZR.out, HP.out, HM.out]
  rw [eR] at F
  have HF := Ho.mk F
  have HBW := Ho.mk hH.bel
  clear F hH hO2
  go_wp2_with fail
  refine leaveAny hd ?_
  go_ret2
  exact ⟨bo, rfl, ⟨HF.out.out.choose, ⟨(World.putObj_heap_other (by omega)).trans HF.out.out.choose_spec.1.out⟩, HF.out.out.choose_spec.2⟩, G6, ⟨⟨HBW.out.out.os, HBW.out.out.tape, HBW.out.out.output, by have := HBW.out.size; simpa [World.putObj] using this, fun j hj => (World.putObj_heap_other (by have := HB.out.size; omega)).trans (HBW.out.out.block j hj)⟩⟩⟩
 ·rintro c pre O W hsz _ hI; exact hI.elim
end Y5
namespace Y6
open Ieee Go Go.RowKit Go.Proofs Go.Proofs.YtalbgklfhabnkaaGreatDoor Ow Dt Gp I0 U0 W0 S4 S6 P0 M0 M1 M3 W4 W5 V2 P4 Y3 Yh Y4 Y1 P8 Pc Y5
open Go.Proofs.YtalbgklfhabnkaaGreatDoor.V1 (NI St ni_same ni_loop St.refl St.of_bel blk_keep ni_blk put_st)
open Go.Proofs.YtalbgklfhabnkaaGreatDoor.C6 (leaveAny)
open Go.Proofs.YtalbgklfhabnkaaGreatDoor.Pg (In)
attribute [local go_sem ↓] Go.wp_at_zero Go.wp_at_succ
def okR (n : Nat) : Bool := decide (1 ≤ logI n)
def rfR (X : List Nat) : List Nat := if okR X.length then rfftN (Nat.log2 X.length) X else []
def errF (X : List Nat) : Int := if okR X.length then 0 else 2
theorem okR_pow {n : Nat} (h : okR n = true) : n = 2 ^ Nat.log2 n ∧ 1 ≤ Nat.log2 n ∧ n ≤ 1024 := by
 unfold okR at h
 have h := of_decide_eq_true h
 unfold logI at h
 split at h
 ·rename_i q; exact ⟨q.2.1.symm, by omega, q.2.2⟩
 ·omega
theorem logI_bad {n : Nat} (h : okR n = false) : logI n < 1 := by
 unfold okR at h
 have := of_decide_eq_false h
 omega
theorem log_7 {n : Nat} (h : n ≤ 128) (h2 : n = 2 ^ Nat.log2 n) : Nat.log2 n ≤ 7 := by
 apply Nat.le_of_not_lt; intro q
 have : 2 ^ 8 ≤ 2 ^ Nat.log2 n := Nat.pow_le_pow_right (by decide) q
 rw [← h2] at this; omega
def MakesRE (w : World) (Z : List Nat) (z : Int) (e : Ending) (w' : World) : Prop := ∃ A c, e = .returned (.tuple #[.slice A Z.length c, .int .i64 z]) ∧ RowF w' w.heap.size (.slice A Z.length c) Z ∧ Bel w w'
theorem dRfftBad {A : Option Addr} {c n : Nat} (w : World) (T : Tab w) (hn : n ≤ 128) (hb : okR n = false) :
  Calls Tryz.prog 84 #[.slice A n c] w fun e w' => e = .returned (.tuple #[.slice none 0 0, .int .i64 2]) ∧ Bel w w' := by
 have hl := logI_bad hb
 obtain ⟨z, hz⟩ : ∃ z, z = logI n := ⟨_, rfl⟩
 have C0 := dLogR (n := n) rfl w (by omega) T
 rw [← hz] at C0 hl
 have C0 := Ho.mk C0
 clear T hb hz
 go_enter Tryz.func84, Tryz.ntmps84
 go_wp2_with fail
 (with_reducible refine C0.out.mono ?_); rintro e w1 ⟨rfl, rfl⟩
 clear C0
 go_wp2
 go_ret2
 exact ⟨rfl, Bel.refl _⟩
theorem dRfft {A : Option Addr} {c : Nat} {X : List Nat} (w : World) (T : Tab w) (hx : In w (.slice A X.length c) X) (hl : X.length ≤ 128) :
  Calls Tryz.prog 84 #[.slice A X.length c] w (MakesRE w (rfR X) (errF X)) := by
 unfold rfR errF
 cases hb : okR X.length with
 | true =>
  obtain ⟨h1, h2, _⟩ := okR_pow hb
  refine (dRfftOk w T hx h1 h2 (log_7 hl h1)).mono ?_
  rintro e w' ⟨b, rfl, F, hB, g⟩
  have l := rfftN_len (Nat.log2 X.length) X
  rw [← h1] at l
  simp only [if_true]
  refine ⟨some ⟨b, 0, none⟩, X.length, by rw [l], ?_, g⟩
  exact RowF.of F.fz hB (by rw [l]; exact Nat.le_refl _) (by omega)
 | false =>
  refine (dRfftBad w T hl hb).mono ?_
  rintro e w' ⟨rfl, g⟩
  exact ⟨none, 0, rfl, RowF.nil _ _ _ _ (by decide), g⟩
end Y6
end Go.Proofs.YtalbgklfhabnkaaGreatDoor
