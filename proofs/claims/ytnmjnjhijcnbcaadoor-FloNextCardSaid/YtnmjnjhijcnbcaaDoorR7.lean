/-
  The walks of the document's answer to layer 1: Shl, Shr.
-/
import Derived.Test.YtnmjnjhijcnbcaaDoorR6
import Derived.Test.YtnmjnjhijcnbcaaDoorOx
import Derived.StillTailTactics
import Derived.IntWalk
set_option linter.unusedVariables false
namespace Go.Proofs.YtnmjnjhijcnbcaaDoor.R7
open Go.RowKit Go.Proofs.YtnmjnjhijcnbcaaDoor Go.Proofs.YtnmjnjhijcnbcaaDoor.Ow Go.Proofs.YtnmjnjhijcnbcaaDoor.Pl Go.Proofs.YtnmjnjhijcnbcaaDoor.N2 Go.Proofs.YtnmjnjhijcnbcaaDoor.R1

set_option maxHeartbeats 1000000 in
theorem shl_calls (A0 : Option Addr) (c0 x kn : Nat) (k : Int) (w : World) (h0 : Rd w A0 (digs x)) (hc0 : (digs x).length ≤ c0)
    (hx : (digs x).length ≤ 50000) (hk : kn = k.toNat) (hkn : kn ≤ 100000) :
    Calls Tryd.prog 57 #[.slice A0 (digs x).length c0, .int .i64 k] w
      fun e w' => ∃ A c, e = .returned (.slice A (digs (x * 2 ^ kn)).length c) ∧ (digs (x * 2 ^ kn)).length ≤ c ∧ Rd w' A (digs (x * 2 ^ kn)) ∧ Bel w w' := by
  rcases Int.lt_or_le 0 k with hpos | hneg
  · rcases Nat.eq_zero_or_pos x with hz | hz
    · subst hz
      have e : Ho (digs (0 * 2 ^ kn) = digs 0) := ⟨by rw [Nat.zero_mul]⟩
      rw [e.out]
      have hb : decide (k ≤ 0) = false := decide_eq_false (by omega)
      have hlen : ((digs 0).length : Int) = 0 := by rw [digs_zero]; rfl
      have HL := Ho.mk hlen
      have hlb : (((digs 0).length : Int) == 0) = true := by rw [hlen]; rfl
      clear hlen
      go_enter Tryd.func57, Tryd.ntmps57
      go_wp2_with (go_at_call 89; (with_reducible refine (trim_calls _ _ (digs 0) _ h0 hc0 (by omega)).mono ?_); rintro e w' ⟨A2, c2, rfl, hc2, hr2, hb2⟩; rw [trim_self] at hc2 hr2)
      go_ret
      exact ⟨A2, c2, by rw [trim_self]; rfl, hc2, hr2, hb2⟩
    · obtain ⟨kk, rfl⟩ := Int.eq_ofNat_of_zero_le (Int.le_of_lt hpos)
      rw [Int.toNat_natCast] at hk
      subst hk
      have F0 := Ho.mk (digs_can x).1
      have HF := Ho.mk (shl_digs x kn)
      have hlp : 0 < (digs x).length := List.length_pos_iff.2 (fun e => by have := digs_nil.1 e; omega)
      have hlb : (((digs x).length : Int) == 0) = false := beq_eq_false_iff_ne.mpr (by omega)
      generalize digs x = l at *
      have H0 := Ho.mk h0
      obtain ⟨sk, hsk⟩ : ∃ sk, sk = kn / 24 := ⟨_, rfl⟩
      obtain ⟨by_, hby⟩ : ∃ b, b = kn % 24 := ⟨_, rfl⟩
      obtain ⟨p, hp⟩ : ∃ p : Int, p = ((2 ^ by_ : Nat) : Int) := ⟨_, rfl⟩
      have hq : (kn : Int) / 24 = sk := by omega
      have hr : (kn : Int) % 24 = by_ := by omega
      have hby24 : by_ < 24 := by omega
      have HPW : Ho (wrap64 (2 ^ by_) = p) := ⟨by
        have := (shl_wrap (x := 1) (by decide) (by decide) hby24).1
        rw [Int.one_mul, Int.one_mul] at this
        rw [hp]; exact this⟩
      have hp1 : 1 ≤ p := by rw [hp]; have := Nat.two_pow_pos by_; omega
      have hp2 : p ≤ 8388608 := by rw [hp]; have := p2_lt hby24; omega
      have hb : decide ((kn : Int) ≤ 0) = false := decide_eq_false (by omega)
      have HPP := Ho.mk hp
      have HSK := Ho.mk hsk
      have HBY := Ho.mk hby
      have hsk5 : sk ≤ 5000 := by omega
      clear hsk hby hp h0
      go_enter Tryd.func57, Tryd.ntmps57
      go_wp2_with (at_make; refine wpList_mk _ rfl _ _ 22 rfl 3 (.int .i64 0) 8 Tryd.underlying22 N2.info3 rfl sk rfl rfl (by omega) (by omega) ?_; intro w1 hk1 hl1 hs1)
      rw [HPW.out, hr]
      have HK1 : Ho (Own w1 w.heap.size 3 1 (.slice (some ⟨w.heap.size, 0, none⟩) sk sk) sk (ints (List.replicate sk 0))) := ⟨by rw [← ints_rep]; exact hk1.own (by simp) (Nat.le_refl _) (by omega)⟩
      have HL1 := Ho.mk hl1
      clear hk1 hl1 hs1 HPW
      go_loopw [5, 7, 8] (fun v5 v7 v8 wr => ∃ (i : Nat) (c : Int) (d : List Int), i ≤ l.length ∧ v8 = .int .i64 i ∧ v7 = .int .i64 c ∧ 0 ≤ c ∧ c < 16777216 ∧ Ho (d.length = i) ∧ Ho (Own wr w.heap.size 3 1 v5 (sk + i) (ints (List.replicate sk 0 ++ d))) ∧ Ho (Bel w wr) ∧ Ho (Lims d) ∧
        Ho (d ++ limbs (l.length + 1 - i) c (fun j => nth l (i + j) * p) = limbs (l.length + 1) 0 (fun j => nth l j * p))) (fun _ _ v8 _ => l.length - (intOf v8).toNat)
      case atStart => exact ⟨0, 0, [], Nat.zero_le _, rfl, rfl, by omega, by omega, ⟨rfl⟩, ⟨by rw [List.append_nil]; exact HK1.out⟩, HL1, ⟨fun x hx => by simp at hx⟩, ⟨by simp⟩⟩
      case round =>
        obtain ⟨i, c, d, hi, rfl, rfl, hc0', hc1', HD, HO, HW, HLd, HE⟩ := hrel
        rcases Nat.lt_or_ge i l.length with hlt | hge
        · obtain ⟨ad, rfl, x0⟩ := (H0.out.bel HW.out).cell i hlt
          obtain ⟨g0, g1⟩ := F0.out.nth i
          have p0 : 0 ≤ nth l i * p := Int.mul_nonneg g0 (by omega)
          have p1 : nth l i * p ≤ 140737479966720 := by
            have a : nth l i * p ≤ nth l i * 8388608 := Int.mul_le_mul_of_nonneg_left hp2 g0
            omega
          go_wp2_with (at_builtin; refine wpList_app _ rfl (.tmp 39) (.tmp 42) 22 rfl w.heap.size 3 (.int .i64 0) 8 Tryd.underlying22 N2.info3 rfl _ (sk + i) (ints (List.replicate sk 0 ++ d)) _ rfl HO.out rfl rfl (by omega) (by omega) HW.out.size ?_; intro v w2 hv hb2)
          go_roundw
          case rel =>
            have hd := limbs_step (fun j => nth l j * p) i (l.length + 1) c d (by omega)
            refine ⟨i + 1, (nth l i * p + c) / 16777216, d ++ [(nth l i * p + c) % 16777216], by omega, by simp, rfl, ?_, ?_, ⟨by simp [HD.out]⟩, ⟨?_⟩, ⟨⟨HW.out.out.trans hb2⟩⟩, ⟨lims_append HLd.out (fun z hz => by simp at hz; subst hz; omega)⟩, ⟨by rw [hd]; exact HE.out⟩⟩
            · generalize nth l i * p = z at p0 p1 ⊢
              omega
            · generalize nth l i * p = z at p0 p1 ⊢
              omega
            · rw [← List.append_assoc, show ∀ (a : List Int) z, ints (a ++ [z]) = ints a ++ [.int .i64 z] from fun a z => by simp [ints]]
              exact hv
          case measure => simp [intOf]; omega
        · obtain rfl : i = l.length := by omega
          have he := HE.out
          rw [show l.length + 1 - l.length = 1 from by omega] at he
          have hlast : limbs 1 c (fun j => nth l (l.length + j) * p) = [c] := by
            simp only [limbs, Nat.add_zero]
            rw [nth_ge (Nat.le_refl _), Int.zero_mul, Int.zero_add, Int.emod_eq_of_lt hc0' hc1']
          rw [hlast] at he
          have e : Ho (trimL (List.replicate sk 0 ++ (d ++ [c])) = digs (x * 2 ^ kn)) := ⟨by rw [he, HPP.out, HSK.out, HBY.out]; exact HF.out⟩
          clear he hlast hi
          go_wp2_with (at_builtin; refine wpList_app _ rfl (.tmp 46) (.tmp 48) 22 rfl w.heap.size 3 (.int .i64 0) 8 Tryd.underlying22 N2.info3 rfl _ (sk + l.length) (ints (List.replicate sk 0 ++ d)) _ rfl HO.out rfl rfl (by omega) (by omega) HW.out.size ?_; intro v w2 hv hb2)
          have hlen : (List.replicate sk (0 : Int) ++ (d ++ [c])).length = sk + l.length + 1 := by simp [HD.out]; omega
          obtain ⟨A, cc, rfl, hcc, hr2⟩ := (show Own w2 w.heap.size 3 1 v (List.replicate sk (0 : Int) ++ (d ++ [c])).length (ints (List.replicate sk 0 ++ (d ++ [c]))) from by
            rw [hlen, ← List.append_assoc, show ∀ (a : List Int) z, ints (a ++ [z]) = ints a ++ [.int .i64 z] from fun a z => by simp [ints]]; exact hv).rd (by rw [hlen]; omega)
          have HR := Ho.mk hr2
          have HLEN := Ho.mk hlen
          clear hr2 hv hlen
          go_wp2_with (go_at_call 89; (with_reducible refine (trim_calls _ _ _ _ HR.out hcc (by rw [HLEN.out]; omega)).mono ?_); rintro e w' ⟨A2, c2, rfl, hc2, hr2, hb3⟩; rw [e.out] at hc2 hr2)
          go_ret
          rw [← e.out]
          exact ⟨_, _, rfl, by rw [e.out]; exact hc2, by rw [e.out]; exact hr2, (Bel.mk (HW.out.out.trans hb2)).trans hb3⟩
  · have hk0 : kn = 0 := by omega
    have e : Ho (digs (x * 2 ^ kn) = digs x) := ⟨by rw [hk0]; simp⟩
    rw [e.out]
    have hb : decide (k ≤ 0) = true := decide_eq_true hneg
    go_enter Tryd.func57, Tryd.ntmps57
    go_wp2_with (go_at_call 89; (with_reducible refine (trim_calls _ _ (digs x) _ h0 hc0 (by omega)).mono ?_); rintro e w' ⟨A2, c2, rfl, hc2, hr2, hb2⟩; rw [trim_self] at hc2 hr2)
    go_ret
    exact ⟨A2, c2, by rw [trim_self]; rfl, hc2, hr2, hb2⟩

theorem nth_drop (l : List Int) (a b : Nat) : nth (l.drop a) b = nth l (a + b) := by simp [nth]
theorem shr_val {a b p q : Int} (a0 : 0 ≤ a) (a1 : a < 16777216) (b0 : 0 ≤ b) (b1 : b < 16777216) (hp : 1 ≤ p) (hp2 : p ≤ 8388608) (hpq : p * q = 16777216) :
    IntKind.i64.wrap (IntKind.i64.wrap (a.tdiv p) + IntKind.i64.wrap (b.tmod p * IntKind.i64.wrap (Int.tdiv 16777216 p))) = a / p + b * q % 16777216 := by
  rw [← shr_limb (by omega) hpq, Int.tdiv_eq_ediv_of_nonneg a0, Int.tmod_eq_emod_of_nonneg b0, Int.tdiv_eq_ediv_of_nonneg (by decide)]
  have hq : 16777216 / p = q := by rw [← hpq]; exact Int.mul_ediv_cancel_left _ (by omega)
  have hl := limb_or (y := b) a0 a1 (by omega) hpq b0
  have h1 : 0 ≤ b % p := Int.emod_nonneg _ (by omega)
  have h2 : b % p < p := Int.emod_lt_of_pos _ (by omega)
  have hq0 : 0 ≤ q := by omega
  have h3 : 0 ≤ b % p * q := Int.mul_nonneg h1 hq0
  have h4 : b % p * q ≤ p * q := Int.mul_le_mul_of_nonneg_right (by omega) hq0
  have h5 : q ≤ 16777216 := by
    have : 1 * q ≤ p * q := Int.mul_le_mul_of_nonneg_right hp hq0
    omega
  have h6 : 0 ≤ a / p := Int.ediv_nonneg a0 (by omega)
  rw [hq, IntWalk.i64_in q (by omega), IntWalk.i64_in (a / p) (by omega), IntWalk.i64_in (b % p * q) (by omega), IntWalk.i64_in _ (by omega)]

set_option maxRecDepth 100000 in
set_option maxHeartbeats 1000000 in
theorem shr_calls (A0 : Option Addr) (c0 x kn : Nat) (k : Int) (w : World) (h0 : Rd w A0 (digs x)) (hc0 : (digs x).length ≤ c0)
    (hx : (digs x).length ≤ 50000) (hk : kn = k.toNat) (hkn : kn ≤ 100000) :
    Calls Tryd.prog 67 #[.slice A0 (digs x).length c0, .int .i64 k] w
      fun e w' => ∃ A c, e = .returned (.slice A (digs (x / 2 ^ kn)).length c) ∧ (digs (x / 2 ^ kn)).length ≤ c ∧ Rd w' A (digs (x / 2 ^ kn)) ∧ Bel w w' := by
  rcases Int.lt_or_le 0 k with hpos | hneg
  · obtain ⟨kk, rfl⟩ := Int.eq_ofNat_of_zero_le (Int.le_of_lt hpos)
    rw [Int.toNat_natCast] at hk
    subst hk
    have F0 := Ho.mk (digs_can x).1
    have HF := Ho.mk (shr_digs x kn)
    generalize digs x = l at *
    have H0 := Ho.mk h0
    obtain ⟨sk, hsk⟩ : ∃ sk, sk = kn / 24 := ⟨_, rfl⟩
    obtain ⟨by_, hby⟩ : ∃ b, b = kn % 24 := ⟨_, rfl⟩
    obtain ⟨p, hp⟩ : ∃ p : Int, p = ((2 ^ by_ : Nat) : Int) := ⟨_, rfl⟩
    obtain ⟨q, hqq⟩ : ∃ q : Int, q = ((2 ^ (24 - by_) : Nat) : Int) := ⟨_, rfl⟩
    have hq : (kn : Int) / 24 = sk := by omega
    have hr : (kn : Int) % 24 = by_ := by omega
    have hby24 : by_ < 24 := by omega
    have HPW : Ho (wrap64 (2 ^ by_) = p) := ⟨by
      have := (shl_wrap (x := 1) (by decide) (by decide) hby24).1
      rw [Int.one_mul, Int.one_mul] at this
      rw [hp]; exact this⟩
    have hp1 : 1 ≤ p := by rw [hp]; have := Nat.two_pow_pos by_; omega
    have hp2 : p ≤ 8388608 := by rw [hp]; have := p2_lt hby24; omega
    have hpq : p * q = 16777216 := by
      rw [hp, hqq, ← Int.natCast_mul, ← Nat.pow_add, show by_ + (24 - by_) = 24 from by omega]; rfl
    have hqv : 16777216 / p = q := by rw [← hpq]; exact Int.mul_ediv_cancel_left _ (by omega)
    have HPQ := Ho.mk hpq
    have HQV := Ho.mk hqv
    have hb : decide ((kn : Int) ≤ 0) = false := decide_eq_false (by omega)
    obtain ⟨S, hS⟩ : ∃ S, S = shrL p q (l.drop sk) := ⟨_, rfl⟩
    have HSS := Ho.mk hS
    have HFS : Ho (trimL S = digs (x / 2 ^ kn)) := ⟨by rw [hS, hp, hqq, hsk, hby]; exact HF.out⟩
    have HSL : Ho (S.length = l.length - sk) := ⟨by rw [hS, shrL_len, List.length_drop]⟩
    have hsk5 : sk ≤ 5000 := by omega
    clear hsk hby hp h0 hqq hpq hqv hS HF
    go_enter Tryd.func67, Tryd.ntmps67
    go_wp2
    try rw [HPW.out]
    try rw [hr]
    rw [show decide (kn = 0) = false from decide_eq_false (by omega)]
    go_loopw [7, 8] (fun v7 v8 wr => ∃ (i j : Nat), i ≤ l.length - sk ∧ j ≤ l.length + sk ∧ Ho (j = sk + i) ∧ v8 = .int .i64 (j : Int) ∧ Ho (Own wr w.heap.size 3 1 v7 i (ints (S.take i))) ∧ Ho (Bel w wr)) (fun _ v8 _ => sk + l.length - (intOf v8).toNat)
    case atStart => exact ⟨0, sk, Nat.zero_le _, by omega, ⟨by omega⟩, rfl, ⟨Own.nil _ _ _ _⟩, ⟨Bel.refl _⟩⟩
    case round =>
      obtain ⟨i, j, hi, hj2, hj, rfl, HO, HW⟩ := hrel
      rcases Nat.lt_or_ge j l.length with hlt | hge
      · obtain ⟨ad, rfl, x0⟩ := (H0.out.bel HW.out).cell j hlt
        obtain ⟨g0, g1⟩ := F0.out.nth j
        obtain ⟨f0, f1⟩ := F0.out.nth (j + 1)
        have hij : i < 1000000000000 := by omega
        have hi2 : i + 1 ≤ l.length - sk := by have := hj.out; omega
        have hi3 : i < S.length := by have := HSL.out; omega
        have q1 : IntKind.i64.wrap ((j : Int) + 1) = ((j + 1 : Nat) : Int) := by rw [IntWalk.i64_in _ (by omega)]; rfl
        have hpz : ¬ p = 0 := by omega
        have E : Ho (IntKind.i64.wrap (IntKind.i64.wrap ((nth l j).tdiv p) + IntKind.i64.wrap ((nth l (j + 1)).tmod p * IntKind.i64.wrap (Int.tdiv 16777216 p))) = nth S i) := ⟨by
          rw [shr_val g0 g1 f0 f1 hp1 hp2 HPQ.out, HSS.out, shrL_nth _ _ _ _ (by rw [List.length_drop]; have := hj.out; omega), nth_drop, nth_drop, hj.out, Nat.add_assoc]⟩
        go_wp2
        go_region_law (first | (refine step_app rfl (.tmp 25) (.tmp 42) 22 rfl w.heap.size 3 (.int .i64 0) 8 Tryd.underlying22 N2.info3 rfl u7 i (ints (S.take i)) _ rfl HO.out.drew rfl rfl hij (by omega) HW.out.size ?_; intro v w2 hv hb2) | (go_simp; go_at_call 90; refine (at_calls (some ad) c0 l (j + 1) _ ((H0.out.bel HW.out).bel (Bel.refl _).drew)).mono ?_; rintro e w' ⟨rfl, rfl⟩))
        all_goals
          rw [E.out] at hv
          go_wp2
          go_roundw
          case rel =>
            refine ⟨i + 1, j + 1, by omega, by omega, ⟨by have := hj.out; omega⟩, rfl, ⟨?_⟩, ⟨⟨HW.out.out.trans (((Below.refl _ _).drew).trans hb2)⟩⟩⟩
            rw [List.take_succ_eq_append_getElem hi3, ← nth_lt hi3, show ∀ (a : List Int) z, ints (a ++ [z]) = ints a ++ [.int .i64 z] from fun a z => by simp [ints]]
            exact hv
          case measure => simp [intOf]; omega
      · have hil : Ho (S.take i = S) := ⟨List.take_of_length_le (by have := HSL.out; have := hj.out; omega)⟩
        rw [hil.out] at HO
        have hSi : S.length = i := by have := HSL.out; have := hj.out; omega
        obtain ⟨A, cc, rfl, hcc, hr2⟩ := (show Own wr w.heap.size 3 1 u7 S.length (ints S) from by rw [hSi]; exact HO.out).rd (by omega)
        have HR := Ho.mk hr2
        clear hr2 HO
        have hS2 : S.length ≤ 200000 := by omega
        clear hSi
        go_wp2_with (go_at_call 89; (with_reducible refine (trim_calls _ _ _ _ HR.out hcc hS2).mono ?_); rintro e w' ⟨A2, c2, rfl, hc2, hr2, hb3⟩; rw [HFS.out] at hc2 hr2)
        go_ret
        rw [← HFS.out]
        exact ⟨_, _, rfl, by rw [HFS.out]; exact hc2, by rw [HFS.out]; exact hr2, HW.out.trans hb3⟩
  · have hk0 : kn = 0 := by omega
    have e : Ho (digs (x / 2 ^ kn) = digs x) := ⟨by rw [hk0]; simp⟩
    rw [e.out]
    have hb : decide (k ≤ 0) = true := decide_eq_true hneg
    go_enter Tryd.func67, Tryd.ntmps67
    go_wp2_with (go_at_call 89; (with_reducible refine (trim_calls _ _ (digs x) _ h0 hc0 (by omega)).mono ?_); rintro e w' ⟨A2, c2, rfl, hc2, hr2, hb2⟩; rw [trim_self] at hc2 hr2)
    go_ret
    exact ⟨A2, c2, by rw [trim_self]; rfl, hc2, hr2, hb2⟩
end Go.Proofs.YtnmjnjhijcnbcaaDoor.R7
