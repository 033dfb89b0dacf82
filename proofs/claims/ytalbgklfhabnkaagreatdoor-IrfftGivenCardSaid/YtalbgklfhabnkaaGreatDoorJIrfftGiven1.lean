/-
  Joined, of what this claim leans on: W5, Y7, Pj, Pm, Lf, Lg, Lk, Ll.
-/
import Derived.Deep.AppendLies
import Derived.Test.YtalbgklfhabnkaaGreatDoorJIrfftScale6
set_option linter.unusedVariables false
set_option linter.unusedSimpArgs false
set_option maxRecDepth 100000
set_option maxHeartbeats 16000000
namespace Go.Proofs.YtalbgklfhabnkaaGreatDoor
namespace W5
open Ieee Go Go.RowKit Go.Proofs Go.Proofs.YtalbgklfhabnkaaGreatDoor Ow Dt Gp W0 S4 M0 M1 M3 W4
attribute [local go_sem ↓] Go.wp_at_zero Go.wp_at_succ
theorem fc_one {cs : List Value} {X : List Nat} (h : ∀ j u, cs[j]? = some u → Fc u (nthN X j)) : ∀ u ∈ cs, u.oneCell' = true := fun u hu => by
 obtain ⟨j, hj, rfl⟩ := List.getElem_of_mem hu
 obtain ⟨b, e, _⟩ := h j _ (List.getElem?_eq_getElem hj)
 rw [e]; rfl
theorem own_rowF {w : World} {B n : Nat} {v : Value} {cs : List Value} {X : List Nat} (h : Ow.OwnI w B 22 1 v n cs) (hn : X.length = n) (hc : ∀ j u, cs[j]? = some u → Fc u (nthN X j)) : RowF w B v X := by
 subst hn
 have hl := h.out.1
 rcases h.out.2 with ⟨rfl, h0⟩ | ⟨g, cap, cur, rfl, hg, hb, h1, h2, h3, h4⟩
 ·exact ⟨none, 0, by rw [h0], by omega, by decide, .inl h0⟩
 ·refine ⟨_, cap, rfl, h1, h2, .inr ⟨g, rfl, ⟨cur.toList, ⟨by simpa using hb⟩, fun j hj => ?_⟩, hg⟩⟩
  have hjl : j < cs.length := by omega
  refine ⟨cs[j], ?_, hc j _ (List.getElem?_eq_getElem hjl)⟩
  have : (cur.toList.take (X.length * 1))[j]? = some cs[j] := by rw [h4]; exact List.getElem?_eq_getElem hjl
  rw [List.getElem?_take] at this
  split at this
  ·exact this
  ·cases this
end W5
namespace Y7
open Ieee Go Go.RowKit Go.Proofs Go.Proofs.YtalbgklfhabnkaaGreatDoor Ow Dt Gp I0 U0 W0 S4 S6 P0 M0 M1 M3 W4 W5 V2 P4 Y3 Yh Y1 P8 Pc Y6
open Go.Proofs.YtalbgklfhabnkaaGreatDoor.V1 (NI St ni_same ni_loop St.refl St.of_bel blk_keep ni_blk put_st)
open Go.Proofs.YtalbgklfhabnkaaGreatDoor.C6 (leaveAny)
open Go.Proofs.YtalbgklfhabnkaaGreatDoor.Pg (In)
attribute [local go_sem ↓] Go.wp_at_zero Go.wp_at_succ
def binsRe (X : List Nat) : List Nat := if okR X.length then M2.evenG opsN X ++ [nthN (M2.oddG opsN X) 0] else []
def binsIm (X : List Nat) : List Nat := if okR X.length then (M2.oddG opsN X).set 0 0 ++ [0] else []
end Y7
namespace Pj
open Ieee Go Go.RowKit Go.Proofs Go.Proofs.YtalbgklfhabnkaaGreatDoor Ow Dt Gp I0 U0 W0 S4 S6 P0 M0 M1 M2 M3 P4 P5 P6 P8 Pa Pb W4 W5 W1 W2 Pc Pe Pg
attribute [local go_sem ↓] Go.wp_at_zero Go.wp_at_succ
theorem wp_app_in {w : World} {o : Oper} {a : Act} {K : Act → World → Prop} {Q : Exit → Act → World → Prop} (s x : Operand) (ho : o.op = .call { callee := .builtin .append, args := #[s, x], argTypes := #[25, 25] })
  {g c : Nat} {A : Option Addr} {X : List Nat} (hs : a.eval s = .slice (some ⟨g, 0, none⟩) 0 0) (K0 : Blk w g 22 []) (hx : a.eval x = .slice A X.length c) (hin : In w (.slice A X.length c) X) (hl : X.length ≤ 100000)
  (h : ∀ A' c' w', RowF w' g (.slice A' X.length c') X → Gr g w w' → (X.length = 0 ∨ ∃ b, A' = some ⟨b, 0, none⟩ ∧ (b = g ∨ b = w.heap.size)) → K (a.put o.dst (.slice A' X.length c')) w') : o.wp Tryz.prog a w K Q := by
 obtain ⟨A1, c1, e, h2, h3, h4, h5⟩ := hin.out
 cases e
 rcases Nat.eq_zero_or_pos X.length with h0 | hp
 ·obtain rfl := List.length_eq_zero_iff.1 h0
  have fin := h (some ⟨g, 0, none⟩) 0 w (RowF.nil _ _ _ _ (by decide)) (Gr.refl _ _) (.inl rfl)
  cases A with
  | none =>
   obtain ⟨i, hi, hzz⟩ := Option.map_eq_some_iff.1 infoF
   have hrun : (Builtin.append_ #[25, 25] o.type #[.slice (some ⟨g, 0, none⟩) 0 0, .slice none 0 c]).run Tryz.prog w = .ok (.slice (some ⟨g, 0, none⟩) 0 0) w := by
    simp [Builtin.append_, run_underlying Tryz.underlying25, sizeOf, typeInfo, hi, storeCells, Builtin.lenOf, Builtin.firstCells]
   unfold Oper.wp
   simp [execOp, ho, resolve, invoke, builtin, hs, hx, hrun, Result.andThen]
   exact fin
  | some ad =>
   obtain ⟨i, hi, hzz⟩ := Option.map_eq_some_iff.1 infoF
   simp only [Prod.mk.injEq] at hzz
   obtain ⟨hz, hsz, hb⟩ := hzz
   have hrun : (Builtin.append_ #[25, 25] o.type #[.slice (some ⟨g, 0, none⟩) 0 0, .slice (some ad) 0 c]).run Tryz.prog w = .ok (.slice (some ⟨g, 0, none⟩) 0 0) w := by
    simp [Builtin.append_, run_underlying Tryz.underlying25, sizeOf, typeInfo, hi, storeCells, Builtin.lenOf, Builtin.firstCells, loadCells, loadCellsFrom]
   unfold Oper.wp
   simp [execOp, ho, resolve, invoke, builtin, hs, hx, hrun, Result.andThen]
   exact fin
 ·cases A with
  | none => have := h5 rfl; omega
  | some ad =>
   obtain ⟨cs, k1, k2, k3⟩ := Fr.news h4
   obtain ⟨i, hi, hzz⟩ := Option.map_eq_some_iff.1 infoF
   simp only [Prod.mk.injEq] at hzz
   obtain ⟨hz, hsz, hb⟩ := hzz
   have hown : w.ownsRow g 22 1 (.slice (some ⟨g, 0, none⟩) 0 0) 0 [] := ⟨rfl, .inr ⟨g, 0, #[], rfl, Nat.le_refl _, K0.out, Nat.le_refl _, by decide, rfl, rfl⟩⟩
   refine wp_append_lies w s x 25 ho g 22 i (.float .f64 0) 1 8 Tryz.underlying25 hi hz hsz hb rfl (by decide) _ 0 [] hs hown ad X.length c cs hx (by rw [k1]; omega) k2 (fc_one k3) hp (by simp only [maxLen]; omega) (by omega) (Nat.le_of_lt K0.lt) _ rfl ?_
   intro g' cap w' h6 h7 h8 h9
   rw [Nat.zero_add] at h6 ⊢
   rw [List.nil_append] at h6
   refine h _ _ _ (own_rowF ⟨h6⟩ rfl k3) ⟨h7.os, h7.tape, h7.output, h7.size, fun k hk hne => h7.block k hk (by simp only [Value.ownBlock]; exact fun q => hne (Option.some.inj q))⟩ (.inr ⟨g', rfl, ?_⟩)
   rcases h8 with h8 | h8
   ·simp only [Value.ownBlock] at h8; exact .inl (Option.some.inj h8).symm
   ·exact .inr h8
end Pj
namespace Pm
open Ieee Go Go.RowKit Go.Proofs Go.Proofs.YtalbgklfhabnkaaGreatDoor Ow I0 P0 P4 Pg
attribute [local go_sem ↓] Go.wp_at_zero Go.wp_at_succ
theorem logI_none {n : Nat} (h : ∀ q, q < 11 → n ≠ 2 ^ q) : logI n = -1 := by
 unfold logI
 refine if_neg fun q => ?_
 refine h (Nat.log2 n) ?_ q.2.1.symm
 apply Nat.lt_of_not_le; intro c
 have : 2 ^ 11 ≤ 2 ^ Nat.log2 n := Nat.pow_le_pow_right (by omega) c
 have := q.2.2
 have := q.2.1
 omega
theorem dPow {n : Nat} (w : World) (h : n ≤ 1024) : Calls Tryz.prog 48 #[.int .i64 (n : Int), .int .i64 10] w fun e w' => e = .returned (.int .i64 (logI n)) ∧ Bel w w' := by
 obtain ⟨k, hk⟩ : ∃ k : Int, k = (n : Int) := ⟨_, rfl⟩
 have HK := Ho.mk hk
 have HN := Ho.mk h
 rw [← hk]
 clear hk h
 go_enter Tryz.func48, Tryz.ntmps48
 go_wp2_with fail
 go_loopw [5] (fun v wr => ∃ (i : Nat), i ≤ 11 ∧ v = .int .i64 i ∧ Ho (∀ q, q < i → n ≠ 2 ^ q) ∧ Ho (Bel w wr)) (fun v _ => 11 - (intOf v).toNat)
 case atStart => exact ⟨0, Nat.zero_le _, rfl, ⟨fun q hq => absurd hq (Nat.not_lt_zero _)⟩, ⟨Bel.refl _⟩⟩
 case round =>
  obtain ⟨i, hi, rfl, HT, HW⟩ := hrel
  have hc : i = 0 ∨ i = 1 ∨ i = 2 ∨ i = 3 ∨ i = 4 ∨ i = 5 ∨ i = 6 ∨ i = 7 ∨ i = 8 ∨ i = 9 ∨ i = 10 ∨ i = 11 := by omega
  clear hi
  rcases hc with rfl | rfl | rfl | rfl | rfl | rfl | rfl | rfl | rfl | rfl | rfl | rfl
  ·by_cases hc : k = 1
   ·have LE := Ho.mk (show logI n = 0 by rw [(by have := HK.out; omega : n = 1)]; decide)
    go_wp2
    go_ret
    exact ⟨by rw [LE.out]; rfl, HW.out⟩
   ·have HC := Ho.mk hc
    go_wp2
    go_roundw
    case rel => exact ⟨1, by omega, rfl, ⟨fun q hq => by have := HT.out q; have := HC.out; have := HK.out; rcases Nat.lt_or_ge q 0 with l | l; exact HT.out q l; rw [show q = 0 by omega]; omega⟩, HW⟩
    case measure => simp [intOf]
  ·by_cases hc : k = 2
   ·have LE := Ho.mk (show logI n = 1 by rw [(by have := HK.out; omega : n = 2)]; decide)
    go_wp2
    go_ret
    exact ⟨by rw [LE.out]; rfl, HW.out⟩
   ·have HC := Ho.mk hc
    go_wp2
    go_roundw
    case rel => exact ⟨2, by omega, rfl, ⟨fun q hq => by have := HT.out q; have := HC.out; have := HK.out; rcases Nat.lt_or_ge q 1 with l | l; exact HT.out q l; rw [show q = 1 by omega]; omega⟩, HW⟩
    case measure => simp [intOf]
  ·by_cases hc : k = 4
   ·have LE := Ho.mk (show logI n = 2 by rw [(by have := HK.out; omega : n = 4)]; decide)
    go_wp2
    go_ret
    exact ⟨by rw [LE.out]; rfl, HW.out⟩
   ·have HC := Ho.mk hc
    go_wp2
    go_roundw
    case rel => exact ⟨3, by omega, rfl, ⟨fun q hq => by have := HT.out q; have := HC.out; have := HK.out; rcases Nat.lt_or_ge q 2 with l | l; exact HT.out q l; rw [show q = 2 by omega]; omega⟩, HW⟩
    case measure => simp [intOf]
  ·by_cases hc : k = 8
   ·have LE := Ho.mk (show logI n = 3 by rw [(by have := HK.out; omega : n = 8)]; decide)
    go_wp2
    go_ret
    exact ⟨by rw [LE.out]; rfl, HW.out⟩
   ·have HC := Ho.mk hc
    go_wp2
    go_roundw
    case rel => exact ⟨4, by omega, rfl, ⟨fun q hq => by have := HT.out q; have := HC.out; have := HK.out; rcases Nat.lt_or_ge q 3 with l | l; exact HT.out q l; rw [show q = 3 by omega]; omega⟩, HW⟩
    case measure => simp [intOf]
  ·by_cases hc : k = 16
   ·have LE := Ho.mk (show logI n = 4 by rw [(by have := HK.out; omega : n = 16)]; decide)
    go_wp2
    go_ret
    exact ⟨by rw [LE.out]; rfl, HW.out⟩
   ·have HC := Ho.mk hc
    go_wp2
    go_roundw
    case rel => exact ⟨5, by omega, rfl, ⟨fun q hq => by have := HT.out q; have := HC.out; have := HK.out; rcases Nat.lt_or_ge q 4 with l | l; exact HT.out q l; rw [show q = 4 by omega]; omega⟩, HW⟩
    case measure => simp [intOf]
  ·by_cases hc : k = 32
   ·have LE := Ho.mk (show logI n = 5 by rw [(by have := HK.out; omega : n = 32)]; decide)
    go_wp2
    go_ret
    exact ⟨by rw [LE.out]; rfl, HW.out⟩
   ·have HC := Ho.mk hc
    go_wp2
    go_roundw
    case rel => exact ⟨6, by omega, rfl, ⟨fun q hq => by have := HT.out q; have := HC.out; have := HK.out; rcases Nat.lt_or_ge q 5 with l | l; exact HT.out q l; rw [show q = 5 by omega]; omega⟩, HW⟩
    case measure => simp [intOf]
  ·by_cases hc : k = 64
   ·have LE := Ho.mk (show logI n = 6 by rw [(by have := HK.out; omega : n = 64)]; decide)
    go_wp2
    go_ret
    exact ⟨by rw [LE.out]; rfl, HW.out⟩
   ·have HC := Ho.mk hc
    go_wp2
    go_roundw
    case rel => exact ⟨7, by omega, rfl, ⟨fun q hq => by have := HT.out q; have := HC.out; have := HK.out; rcases Nat.lt_or_ge q 6 with l | l; exact HT.out q l; rw [show q = 6 by omega]; omega⟩, HW⟩
    case measure => simp [intOf]
  ·by_cases hc : k = 128
   ·have LE := Ho.mk (show logI n = 7 by rw [(by have := HK.out; omega : n = 128)]; decide)
    go_wp2
    go_ret
    exact ⟨by rw [LE.out]; rfl, HW.out⟩
   ·have HC := Ho.mk hc
    go_wp2
    go_roundw
    case rel => exact ⟨8, by omega, rfl, ⟨fun q hq => by have := HT.out q; have := HC.out; have := HK.out; rcases Nat.lt_or_ge q 7 with l | l; exact HT.out q l; rw [show q = 7 by omega]; omega⟩, HW⟩
    case measure => simp [intOf]
  ·by_cases hc : k = 256
   ·have LE := Ho.mk (show logI n = 8 by rw [(by have := HK.out; omega : n = 256)]; decide)
    go_wp2
    go_ret
    exact ⟨by rw [LE.out]; rfl, HW.out⟩
   ·have HC := Ho.mk hc
    go_wp2
    go_roundw
    case rel => exact ⟨9, by omega, rfl, ⟨fun q hq => by have := HT.out q; have := HC.out; have := HK.out; rcases Nat.lt_or_ge q 8 with l | l; exact HT.out q l; rw [show q = 8 by omega]; omega⟩, HW⟩
    case measure => simp [intOf]
  ·by_cases hc : k = 512
   ·have LE := Ho.mk (show logI n = 9 by rw [(by have := HK.out; omega : n = 512)]; decide)
    go_wp2
    go_ret
    exact ⟨by rw [LE.out]; rfl, HW.out⟩
   ·have HC := Ho.mk hc
    go_wp2
    go_roundw
    case rel => exact ⟨10, by omega, rfl, ⟨fun q hq => by have := HT.out q; have := HC.out; have := HK.out; rcases Nat.lt_or_ge q 9 with l | l; exact HT.out q l; rw [show q = 9 by omega]; omega⟩, HW⟩
    case measure => simp [intOf]
  ·by_cases hc : k = 1024
   ·have LE := Ho.mk (show logI n = 10 by rw [(by have := HK.out; omega : n = 1024)]; decide)
    go_wp2
    go_ret
    exact ⟨by rw [LE.out]; rfl, HW.out⟩
   ·have HC := Ho.mk hc
    go_wp2
    go_roundw
    case rel => exact ⟨11, by omega, rfl, ⟨fun q hq => by have := HT.out q; have := HC.out; have := HK.out; rcases Nat.lt_or_ge q 10 with l | l; exact HT.out q l; rw [show q = 10 by omega]; omega⟩, HW⟩
    case measure => simp [intOf]
  ·go_wp2
   go_ret
   exact ⟨by rw [logI_none HT.out]; rfl, HW.out⟩
end Pm
namespace Lf
open Ieee Go Go.RowKit Go.Proofs Go.Proofs.YtalbgklfhabnkaaGreatDoor Ow P4 Y6 Pm
attribute [local go_sem ↓] Go.wp_at_zero Go.wp_at_succ
theorem dFits {k : Int} {n : Nat} (w : World) (hk : k = 1 ∨ k = 2 ∨ k = 4 ∨ k = 5 ∨ k = 6 ∨ k = 8 ∨ k = 9 ∨ k = 10) (hn : n ≤ 128) :
  Calls Tryz.prog 21 #[.int .i64 k, .int .i64 (n : Int)] w fun e w' => e = .returned (.bool (okR n)) ∧ Bel w w' := by
 by_cases h0 : n = 0
 ·subst h0
  rw [show okR 0 = false by decide]
  rcases hk with rfl | rfl | rfl | rfl | rfl | rfl | rfl | rfl
  all_goals
   go_enter Tryz.func21, Tryz.ntmps21
   go_wp2
   go_ret
   exact ⟨rfl, Bel.refl _⟩
 ·have h1 : ¬ (n : Int) < 1 := by omega
  have h2 : ¬ n < 1 := by omega
  obtain ⟨z, hz⟩ : ∃ z, z = logI n := ⟨_, rfl⟩
  have e : okR n = decide (1 ≤ z) := by rw [hz]; rfl
  rw [e]
  have C := dPow (n := n) w (by omega)
  rw [← hz] at C
  have C := Ho.mk C
  clear hz e h0
  rcases hk with rfl | rfl | rfl | rfl | rfl | rfl | rfl | rfl
  all_goals
   go_enter Tryz.func21, Tryz.ntmps21
   go_wp2_with fail
   (with_reducible refine C.out.mono ?_); rintro e w1 ⟨rfl, b1⟩
   go_wp2
   go_ret
   exact ⟨rfl, b1⟩
end Lf
namespace Lg
open Ieee Go Go.RowKit Go.Proofs Go.Proofs.YtalbgklfhabnkaaGreatDoor Ow Dt Gp I0 U0 W0 S4 S6 P0 M0 M1 M3 W4 W5 V2 P4 Y3 Yh Y1 P8 Pc Y6 Y7 Y8 Pk Lv Pj Le Lf
open Go.Proofs.YtalbgklfhabnkaaGreatDoor.V1 (NI St ni_same ni_loop St.refl St.of_bel blk_keep ni_blk put_st)
open Go.Proofs.YtalbgklfhabnkaaGreatDoor.C6 (leaveAny)
open Go.Proofs.YtalbgklfhabnkaaGreatDoor.Pg (In)
attribute [local go_sem ↓] Go.wp_at_zero Go.wp_at_succ
theorem wpList_own {w : World} {ops : Array Oper} {rest : List Oper} {o : Oper} {a : Act} {Q : Exit → Act → World → Prop} (hgd : o.guard = none) (s x : Operand) (ho : o.op = .call { callee := .builtin .append, args := #[s, x], argTypes := #[25, 25] })
  {g c n : Nat} {A : Option Addr} {X : List Nat} (hs : a.eval s = .slice (some ⟨g, 0, none⟩) 0 0) (K0 : Blk w g 22 []) (hx : a.eval x = .slice A n c) (hin : In w (.slice A n c) X) (hl : X.length ≤ 100000) (hn : X.length = n)
  (h : ∀ A' c' w', RowF w' g (.slice A' n c') X → Gr g w w' → wpList Tryz.prog ops Q rest (a.put o.dst (.slice A' n c')) w') : wpList Tryz.prog ops Q (o :: rest) a w := by
 subst hn
 exact wpList_plain hgd fun K hK' => wp_app_in s x ho hs K0 hx hin hl (fun A' c' w' h1 h2 _ => hK' _ _ (h A' c' w' h1 h2))
theorem grow_own {W0 w w' : World} {g : Nat} {A : Option Addr} {n c : Nat} {X : List Nat} (hw : Bel W0 w) (hg : W0.heap.size ≤ g) (G : Gr g w w') (r : RowF w' g (.slice A n c) X) (h0 : 0 < X.length) : ∃ b, A = some ⟨b, 0, none⟩ ∧ n = X.length ∧ X.length ≤ c ∧ c ≤ 9223372036854775807 ∧ Hp W0 w' [.row b X] := by
 obtain ⟨b, c', e, h1, h2, f, l⟩ := r.at_ h0
 simp only [Value.slice.injEq] at e
 obtain ⟨e1, e2, rfl⟩ := e
 exact ⟨b, e1, e2, h1, h2, ⟨G.bel hw hg, fun x hx => by simp at hx; subst hx; exact Nat.le_trans hg l, by simp, fun x hx => by simp at hx; subst hx; exact f⟩⟩
theorem fz_inn {w : World} {b n c : Nat} {X : List Nat} (h : Fz w b X) (hn : X.length = n) (hl : n ≤ 100000) (h1 : n ≤ c) (h2 : c ≤ 9223372036854775807) : In w (.slice (some ⟨b, 0, none⟩) n c) X := by
 subst hn
 exact ⟨_, c, rfl, h1, h2, h.fr (by omega), fun e => by cases e⟩
theorem bins_len {X : List Nat} (hok : okR X.length = true) : (binsRe X).length = X.length / 2 + 1 ∧ (binsIm X).length = X.length / 2 + 1 ∧ 2 ≤ X.length := by
 obtain ⟨h1, h2, _⟩ := okR_pow hok
 have := two_half h2
 rw [← h1] at this
 have := Nat.two_pow_pos (Nat.log2 X.length - 1)
 unfold binsRe binsIm
 rw [if_pos hok, if_pos hok]
 refine ⟨?_, ?_, by omega⟩
 ·rw [List.length_append, M2.evenG_len]; simp only [List.length_cons, List.length_nil]; omega
 ·rw [List.length_append, List.length_set, M2.oddG_len]; rfl
end Lg
namespace Lk
open Ieee Go Go.RowKit Go.Proofs Go.Proofs.YtalbgklfhabnkaaGreatDoor Ow Dt Gp I0 U0 W0 S4 S6 P0 M0 M1 M3 W4 W5 V2 P4 Y3 Yh Y1 P8 Pc Y6 Y7 Y8 Pk Lv Pj Le Lf Lg Li Y2 Y9 Z1 Z2 K4
open Go.Proofs.YtalbgklfhabnkaaGreatDoor.S4 (infoF)
open Go.Proofs.YtalbgklfhabnkaaGreatDoor.W1 (Nm)
open Go.Proofs.YtalbgklfhabnkaaGreatDoor.Pa (upMap upMap_len upMap_zero upMap_set)
open Go.Proofs.YtalbgklfhabnkaaGreatDoor.W2 (P2)
open Go.Proofs.YtalbgklfhabnkaaGreatDoor.V1 (NI St ni_same ni_loop St.refl St.of_bel blk_keep ni_blk put_st)
open Go.Proofs.YtalbgklfhabnkaaGreatDoor.C6 (leaveAny)
open Go.Proofs.YtalbgklfhabnkaaGreatDoor.Pg (In)
attribute [local go_sem ↓] Go.wp_at_zero Go.wp_at_succ
theorem irR_yes {X : List Nat} (h : okR X.length = true) : (irR X).length = X.length ∧ errF X = 0 := ⟨irR_len h, by unfold errF; rw [h]; rfl⟩
theorem irR_no {X : List Nat} (h : okR X.length = false) : irR X = [] ∧ errF X = 2 := ⟨by unfold irR; rw [h]; rfl, by unfold errF; rw [h]; rfl⟩
end Lk
namespace Ll
open Ieee Go Go.RowKit Go.Proofs Go.Proofs.YtalbgklfhabnkaaGreatDoor Ow Dt Gp I0 U0 W0 S4 S6 P0 M0 M1 M3 W4 W5 V2 P4 Y3 Yh Y1 P8 Pc Y6 Y7 Y8 Pk Lv Pj Le Lf Lg Li Y2 Y9 Z1 Z2 K4 Lk
open Go.Proofs.YtalbgklfhabnkaaGreatDoor.S4 (infoF)
open Go.Proofs.YtalbgklfhabnkaaGreatDoor.W1 (Nm)
open Go.Proofs.YtalbgklfhabnkaaGreatDoor.Pa (upMap upMap_len upMap_zero upMap_set)
open Go.Proofs.YtalbgklfhabnkaaGreatDoor.W2 (P2)
open Go.Proofs.YtalbgklfhabnkaaGreatDoor.V1 (NI St ni_same ni_loop St.refl St.of_bel blk_keep ni_blk put_st)
open Go.Proofs.YtalbgklfhabnkaaGreatDoor.C6 (leaveAny)
open Go.Proofs.YtalbgklfhabnkaaGreatDoor.Pg (In)
attribute [local go_sem ↓] Go.wp_at_zero Go.wp_at_succ
theorem given15L {A : Option Addr} {c n : Nat} {X : List Nat} (w : World) (T : Tab w) (hx : In w (.slice A n c) X) (hX : X.length = n) (hl : 64 < n) : Calls Tryz.prog 5 #[.slice A n c] w (fun e w' => e = .returned (.bool true) ∧ Bel w w') := by
 have TT := Ho.mk T
 have hl2 : (64 : Int) < (n : Int) := by omega
 clear T hx hX
 go_enter Tryz.func5, Tryz.ntmps5
 go_wp2_with fail
 have C1 := Ho.mk (head15 w (TT.out.bel (Bel.refl _)))
 (with_reducible refine C1.out.mono ?_); rintro e v2 ⟨rfl, b3⟩
 have b3H := Ho.mk b3
 clear C1 b3
 go_wp2
 go_ret
 exact ⟨rfl, b3H.out⟩
theorem given15N {A : Option Addr} {c n : Nat} {X : List Nat} (w : World) (T : Tab w) (hx : In w (.slice A n c) X) (hX : X.length = n) (hl : n ≤ 64) (hok0 : okR n = false) : Calls Tryz.prog 5 #[.slice A n c] w (fun e w' => e = .returned (.bool true) ∧ Bel w w') := by
 have TT := Ho.mk T
 have HX := Ho.mk hx
 have HXL := Ho.mk hX
 have FT := Ho.mk (fun (w : World) => dFits (k := 2) (n := n) w (by decide) (by omega))
 rw [hok0] at FT
 rw [← hX] at hok0
 have E0 := Ho.mk (show [] = irR X ∧ 2 = errF X from ⟨(irR_no hok0).1.symm, (irR_no hok0).2.symm⟩)
 have hl2 : ¬ (64 : Int) < (n : Int) := by omega
 clear T hx hX hok0
 go_enter Tryz.func5, Tryz.ntmps5
 go_wp2_with fail
 have C1 := Ho.mk (head15 w (TT.out.bel (Bel.refl _)))
 (with_reducible refine C1.out.mono ?_); rintro e v2 ⟨rfl, b3⟩
 have b3H := Ho.mk b3
 clear C1 b3
 have hsz : v2.heap.size = v2.heap.size := rfl
 have K0 := Blk.new v2 [] 22
 have B0 := (Bel.refl v2).alloc (.cells #[] 22)
 have I0 := (HX.out.bel b3H.out).bel B0
 go_upto_region 5 with (at_builtin; refine wpList_own rfl _ _ rfl rfl K0 rfl I0 (by have := HXL.out; omega) HXL.out ?_; intro A4 c4 w3 r4 G4; have R4 := Ho.mk r4; have GG := Ho.mk G4; clear r4 G4 K0 I0)
 have sB := b3H.out.size
 have BB := Ho.mk (GG.out.bel (b3H.out.trans B0) sB)
 clear B0 sB hsz
 go_wp2_with fail
 have C4 := Ho.mk (pIrfft (TT.out.bel BB.out) (HX.out.bel BB.out) (by have := HXL.out; omega) E0.out.1 E0.out.2)
 (with_reducible refine C4.out.mono ?_); rintro e v5 ⟨Q0, c0, rfl, t0, b6⟩
 have b6H := Ho.mk b6
 have T0 := Ho.mk t0
 clear C4 b6 t0
 simp only [List.length_nil] at *
 go_wp2_with fail
 have C7 := Ho.mk (FT.out v5)
 (with_reducible refine C7.out.mono ?_); rintro e v8 ⟨rfl, b9⟩
 have b9H := Ho.mk b9
 clear C7 b9
 go_wp2_with fail
 have HWf : Ho (∃ q, q = v8) := ⟨⟨_, rfl⟩⟩
 go_loopw [8] (fun v wr => v = .int .i64 0 ∧ wr = v8) (fun _ _ => 0)
 case atStart => exact ⟨rfl, rfl⟩
 case round =>
  obtain ⟨rfl, rfl⟩ := hrel
  obtain ⟨wo8, rfl⟩ : ∃ wo : World, wo = wr := ⟨_, rfl⟩
  go_wp2_with fail
  have C10 := Ho.mk (pSameRow (z := true) (HX.out.bel ((BB.out.trans b6H.out).trans b9H.out)) (inn (R4.out.bel (b6H.out.trans b9H.out)) (by have := HXL.out; omega)) (by have := HXL.out; omega) (by have := HXL.out; omega) (by simp))
  (with_reducible refine C10.out.mono ?_); rintro e v11 ⟨rfl, b12⟩
  have b12H := Ho.mk b12
  clear C10 b12
  go_wp2
  go_ret
  exact ⟨rfl, (((BB.out.trans b6H.out).trans b9H.out).trans b12H.out)⟩
theorem given15Y0 {A : Option Addr} {c n : Nat} {X : List Nat} (w : World) (T : Tab w) (hx : In w (.slice A n c) X) (hX : X.length = n) (hl : n ≤ 64) (hn0 : 0 < n) (hok0 : okR n = true) : Calls Tryz.prog 5 #[.slice A n c] w (fun e w' => e = .returned (.bool true) ∧ Bel w w') := by
 have TT := Ho.mk T
 have HX := Ho.mk hx
 have HXL := Ho.mk hX
 have FT := Ho.mk (fun (w : World) => dFits (k := 2) (n := n) w (by decide) (by omega))
 rw [hok0] at FT
 rw [← hX] at hok0
 obtain ⟨Z0, hZ0⟩ : ∃ Z, Z = irR X := ⟨_, rfl⟩
 have LZ0 := Ho.mk (show Z0.length = n by rw [hZ0, (irR_yes hok0).1, hX])
 have E0 := Ho.mk (show Z0 = irR X ∧ 0 = errF X from ⟨hZ0, (irR_yes hok0).2.symm⟩)
 clear hZ0
 have hl2 : ¬ (64 : Int) < (n : Int) := by omega
 clear T hx hX hok0
 go_enter Tryz.func5, Tryz.ntmps5
 go_wp2_with fail
 have C1 := Ho.mk (head15 w (TT.out.bel (Bel.refl _)))
 (with_reducible refine C1.out.mono ?_); rintro e v2 ⟨rfl, b3⟩
 have b3H := Ho.mk b3
 clear C1 b3
 have hsz : v2.heap.size = v2.heap.size := rfl
 have K0 := Blk.new v2 [] 22
 have B0 := (Bel.refl v2).alloc (.cells #[] 22)
 have I0 := (HX.out.bel b3H.out).bel B0
 go_upto_region 5 with (at_builtin; refine wpList_own rfl _ _ rfl rfl K0 rfl I0 (by have := HXL.out; omega) HXL.out ?_; intro A4 c4 w3 r4 G4; have R4 := Ho.mk r4; have GG := Ho.mk G4; clear r4 G4 K0 I0)
 have sB := b3H.out.size
 have BB := Ho.mk (GG.out.bel (b3H.out.trans B0) sB)
 obtain ⟨bw, rfl, hq, hcw, hcw2, H⟩ := grow_own (b3H.out.trans B0) sB GG.out R4.out (by have := HXL.out; omega)
 replace H := Ho.mk H
 have CW := Ho.mk (And.intro hcw hcw2)
 clear hcw hcw2 GG R4 BB B0 sB hsz hq
 go_wp2_with fail
 have C0 := Ho.mk (pIrfft (TT.out.bel H.out.bel) (HX.out.bel H.out.bel) (by have := HXL.out; omega) E0.out.1 E0.out.2)
 (with_reducible refine C0.out.mono ?_); rintro e v0 ⟨A0, c0, rfl, r0, p0⟩
 obtain ⟨b0, cc0, e, _, _, H⟩ := H.out.rowF p0 r0 (by rw [LZ0.out]; omega)
 rw [LZ0.out] at e ⊢
 cases e
 replace H := Ho.mk H
 clear C0 r0 p0
 go_wp2_with fail
 have CF := Ho.mk (FT.out v0)
 (with_reducible refine CF.out.mono ?_); rintro e vf ⟨rfl, pf⟩
 replace H := Ho.mk (H.out.grow pf)
 clear CF pf
 go_wp2_with fail
 go_loopw [8] (fun v wr => ∃ (i : Nat) (Y0x8 : List Nat), i ≤ n ∧ v = .int .i64 i ∧ Ho (Y0x8.length = n) ∧ Ho (Hp w wr [.row b0 Y0x8, .row bw X])) (fun v _ => n - (intOf v).toNat)
 case atStart => exact ⟨0, Z0, Nat.zero_le _, rfl, LZ0, H⟩
 case round =>
  clear H LZ0 E0
  obtain ⟨i, Y0x8, hi, rfl, L0x8, H⟩ := hrel
  rcases Nat.lt_or_ge i n with hlt | hge
  ·have hlt2 := hlt
   obtain ⟨_, y0, _, _⟩ := (H.out.row 0 rfl).at_ (i := i) (by rw [L0x8.out]; exact hlt)
   have x0 := (H.out.row 0 rfl).free i
   go_wp2_with fail
   replace H := Ho.mk (H.out.setF 0 rfl i (r := 4635118810238550016) (by decide) rfl)
   simp only [List.set_cons_zero, List.set_cons_succ] at H
   clear y0 x0
   go_roundw
   case rel => exact ⟨i + 1, _, by omega, by simp, ⟨by rw [List.length_set]; exact L0x8.out⟩, H⟩
   case measure => simp [intOf]; omega
  ·obtain rfl : i = n := by omega
   obtain ⟨wo8, rfl⟩ : ∃ wo : World, wo = wr := ⟨_, rfl⟩
   go_wp2_with fail
   have C8 := Ho.mk (pSameRow (z := true) (HX.out.bel H.out.bel) (fz_inn (H.out.row 1 rfl) HXL.out (by omega) (by have := CW.out.1; have := HXL.out; omega) CW.out.2) (by have := HXL.out; omega) (by have := HXL.out; omega) (by simp))
   (with_reducible refine C8.out.mono ?_); rintro e w8 ⟨rfl, b8⟩
   go_wp2
   go_ret
   exact ⟨rfl, H.out.bel.trans b8⟩
theorem given15_door (A : Option Addr) (c : Nat) (X : List Nat) (w : World) (T : Tab w) (hx : In w (.slice A X.length c) X) : Calls Tryz.prog 5 #[.slice A X.length c] w (fun e w' => e = .returned (.bool true) ∧ Bel w w') := by
 by_cases hl : X.length ≤ 64
 ·cases hok : okR X.length with
  | true => exact given15Y0 w T hx rfl hl (by have := (bins_len hok).2.2; omega) hok
  | false => exact given15N w T hx rfl hl hok
 ·exact given15L w T hx rfl (by omega)
end Ll
end Go.Proofs.YtalbgklfhabnkaaGreatDoor
