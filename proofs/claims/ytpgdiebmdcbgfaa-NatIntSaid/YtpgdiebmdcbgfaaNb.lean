/-
  The walks of package nat: what the root is made of.
-/
import Derived.Test.YtpgdiebmdcbgfaaNa
import Derived.Test.YtpgdiebmdcbgfaaN5
import Derived.Deep.QuietTactic
import Derived.BigQuiet
import Derived.Deep.RegionWith
set_option linter.unusedVariables false
namespace Go.Proofs.Ytpgdiebmdcbgfaa.Nb
open Go.RowKit Go.Proofs.Ytpgdiebmdcbgfaa Go.Proofs.Ytpgdiebmdcbgfaa.Ow Go.Proofs.Ytpgdiebmdcbgfaa.Pl Go.Proofs.Ytpgdiebmdcbgfaa.N1 Go.Proofs.Ytpgdiebmdcbgfaa.N2 Go.Proofs.Ytpgdiebmdcbgfaa.N3 Go.Proofs.Ytpgdiebmdcbgfaa.Na

set_option maxHeartbeats 1000000 in
theorem up_calls (b n by_ : Nat) (l : List Int) (bi inn : Int) (w : World) (h : Blk w b 3 (ints l)) (hn : l.length = n) (hn5 : n ≤ 100000) (hl : Lims l) (hbi : bi = (by_ : Int)) (hby24 : by_ < 24) (hi0 : 0 ≤ inn) (hi1 : inn < 16777216) :
    Calls Try.prog 47 #[.slice (some ⟨b, 0, none⟩) n n, .int .i64 bi, .int .i64 inn] w
      fun e w' => e = .returned (.tuple #[]) ∧ Blk w' b 3 (ints (limbs n inn (fun j => nth l j * ((2 ^ by_ : Nat) : Int)))) ∧ Gr b w w' := by
  subst hbi
  obtain ⟨p, hp⟩ : ∃ p : Int, p = ((2 ^ by_ : Nat) : Int) := ⟨_, rfl⟩
  rw [← hp]
  have HPP := Ho.mk hp
  have H := Ho.mk h
  have HL := Ho.mk hl
  have HN := Ho.mk hn
  have hblt := h.lt
  obtain ⟨bc, hbc⟩ : ∃ bc, bc = w.heap.size := ⟨_, rfl⟩
  have HBC := Ho.mk hbc
  have hne : b ≠ bc := by omega
  have hne' : bc ≠ b := by omega
  clear h hl hn hp hbc
  go_enter Try.func47, Try.ntmps47
  go_wp2
  rw [← HBC.out]
  go_loopw [11] (fun v wr => ∃ (i : Nat) (c : Int) (d : List Int), i ≤ n ∧ v = .int .i64 i ∧ 0 ≤ c ∧ c < 16777216 ∧ Ho (Blk wr b 3 (ints (d ++ l.drop i))) ∧ Ho (Blk wr bc 45 [.int .i64 c]) ∧ Ho (Gr b w wr) ∧ Ho (d.length = i) ∧
      Ho (d ++ limbs (n - i) c (fun j => nth l (i + j) * p) = limbs n inn (fun j => nth l j * p))) (fun v _ => n - (intOf v).toNat)
  case atStart =>
    exact ⟨0, inn, [], Nat.zero_le _, rfl, hi0, hi1, ⟨(by simpa using H.out.old _)⟩, ⟨by rw [HBC.out]; exact Blk.new w [.int .i64 inn] _⟩, ⟨(Gr.refl b w).alloc _⟩, ⟨rfl⟩, ⟨by simp⟩⟩
  case round =>
    obtain ⟨i, c, d, hi, rfl, hc0, hc1, KO, KC, HG, HD, HE⟩ := hrel
    rcases Nat.lt_or_ge i n with hlt | hge
    · have hlen : i < (d ++ l.drop i).length := by rw [List.length_append, List.length_drop, HD.out, HN.out]; omega
      have y0 := KO.out.cell (ints_at _ hlen)
      have e1 := nth_mid [] d l i (by rw [HN.out]; exact hlt) HD.out
      simp only [List.nil_append, List.length_nil, Nat.zero_add] at e1
      rw [e1] at y0
      have y1 := KO.out.free i
      obtain ⟨g0, g1⟩ := HL.out.nth i
      clear hlen e1
      have hw : Ho (wrap64 (nth l i * 2 ^ by_) = nth l i * p ∧ 0 ≤ nth l i * p ∧ nth l i * p ≤ 140737479966720) := ⟨by rw [HPP.out]; exact shl_wrap g0 g1 hby24⟩
      go_wp2_with (go_at_call 38; rw [hw.out.1]; (with_reducible refine (put_calls bc c _ _ KC.out (by have := hw.out.2; omega) (by have := hw.out.2; omega) (by omega) (by omega)).mono ?_); rintro e w' ⟨rfl, rfl⟩)
      go_roundw
      case rel =>
        obtain ⟨p0, p1⟩ := hw.out.2
        have hd := limbs_step (fun j => nth l j * p) i n c d hlt
        have hk := (KO.out.far (p := ⟨bc, 0, none⟩) hne (.int .i64 ((nth l i * p + c) / 16777216))).set i (.int .i64 ((nth l i * p + c) % 16777216))
        have e2 := set_mid [] d l i ((nth l i * p + c) % 16777216) (by rw [HN.out]; exact hlt) HD.out
        simp only [List.nil_append, List.length_nil, Nat.zero_add] at e2
        rw [ints_set, e2] at hk
        refine ⟨i + 1, _, _, by omega, by simp, ?_, ?_, ⟨hk⟩, ⟨(KC.out.set 0 _).far hne' _⟩, ⟨(HG.out.setNew (by have := HBC.out; simp; omega) _).set i _⟩, ⟨by simp [HD.out]⟩, ⟨by rw [hd]; exact HE.out⟩⟩
        all_goals
          generalize nth l i * p = z at p0 p1 ⊢
          omega
      case measure => simp [intOf]; omega
    · obtain rfl : i = n := by omega
      have hd := HE.out
      rw [Nat.sub_self, limbs, List.append_nil] at hd
      have hk := KO.out
      rw [List.drop_eq_nil_of_le (by rw [HN.out]; exact Nat.le_refl _), List.append_nil, hd] at hk
      have HK := Ho.mk hk
      clear hd hk
      go_wp2
      go_end0
      exact ⟨rfl, HK.out, HG.out⟩

/-- slices.Reverse, of a row of the call's own. -/
theorem reverse_calls (B g cap n : Nat) (l : List Int) (w : World) (h : Own w B 3 1 (.slice (some ⟨g, 0, none⟩) n cap) n (ints l)) (hn : l.length = n) (hn5 : n ≤ 100000) :
    Calls Try.prog 57 #[.slice (some ⟨g, 0, none⟩) n cap] w fun e w' => e = .returned (.tuple #[]) ∧ Own w' B 3 1 (.slice (some ⟨g, 0, none⟩) n cap) n (ints l.reverse) ∧ Gr g w w' := by
  subst hn
  have H := Ho.mk h
  clear h
  go_enter Try.func57, Try.ntmps57
  go_wp2
  go_loopw [2, 3] (fun v2 v3 wr => ∃ (i : Nat) (j : Int) (cur : List Int), i ≤ l.length ∧ v2 = .int .i64 i ∧ v3 = .int .i64 j ∧ j + i + 1 = l.length ∧ Ho (Turned l cur i) ∧ Ho (Own wr B 3 1 (.slice (some ⟨g, 0, none⟩) l.length cap) l.length (ints cur)) ∧ Ho (Gr g w wr)) (fun v2 _ _ => l.length - (intOf v2).toNat)
  case atStart => exact ⟨0, l.length - 1, l, Nat.zero_le _, rfl, rfl, by omega, ⟨turned_zero l⟩, H, ⟨Gr.refl _ _⟩⟩
  case round =>
    obtain ⟨i, j, cur, hi, rfl, rfl, hj, HT, HO, HG⟩ := hrel
    rcases Nat.lt_or_ge (i + i + 1) l.length with hlt | hge
    · obtain ⟨m, rfl⟩ := Int.eq_ofNat_of_zero_le (show 0 ≤ j by omega)
      have hcl := HT.out.1
      have a0 := HO.out.cell (ints_at cur (i := i) (by omega))
      have a1 := HO.out.cell (ints_at cur (i := m) (by omega))
      have a2 := HO.out.free i
      have a3 := HO.out.free m
      have hne : ¬ i = m := by omega
      have hne' : ¬ m = i := by omega
      have q0 : (i : Int) < l.length := by omega
      have q1 : (m : Int) < l.length := by omega
      have hlt' : (i : Int) < m := by omega
      have hmi : m = l.length - 1 - i := by omega
      have HMI := Ho.mk hmi
      have HJ := Ho.mk hj
      obtain ⟨x, hx⟩ : ∃ x, x = nth cur i := ⟨_, rfl⟩
      obtain ⟨y, hy⟩ : ∃ y, y = nth cur m := ⟨_, rfl⟩
      rw [← hx] at a0
      rw [← hy] at a1
      have HX := Ho.mk hx
      have HY := Ho.mk hy
      clear hcl hmi hj hx hy
      go_wp2
      go_region
      go_wp2
      go_roundw
      case rel =>
        have hcl := HT.out.1
        have hmi := HMI.out
        have ho := ((HO.out.set i (.int .i64 y)).set m (.int .i64 x)).drew
        rw [ints_set, ints_set, HX.out, HY.out, hmi] at ho
        refine ⟨i + 1, (m : Int) - 1, _, by omega, by simp, rfl, by have := HJ.out; omega, ⟨turned_step HT.out hlt⟩, ⟨?_⟩, ⟨((HG.out.set i _).set m _).drew⟩⟩
        rw [HX.out, HY.out, hmi]; exact ho
      case measure => simp [intOf]; omega
    · have hlt' : ¬ (i : Int) < j := by omega
      have e := Ho.mk (turned_done HT.out hge)
      go_wp2
      go_end0
      exact ⟨rfl, by rw [← e.out]; exact HO.out, HG.out⟩

theorem reversed_calls (ad : Addr) (n c : Nat) (l : List Int) (w : World) (h : Rd w (some ad) l) (hn : l.length = n) (h0 : 0 < n) (hn5 : n ≤ 100000) :
    Calls Try.prog 56 #[.slice (some ad) n c] w fun e w' => ∃ A c, e = .returned (.slice A n c) ∧ Rd w' A l.reverse ∧ Bel w w' := by
  have HN := Ho.mk hn
  clear hn
  go_enter Try.func56, Try.ntmps56
  go_wp2_with fail
  (with_reducible refine (clone_calls ad _ _ l _ h (by have := HN.out; omega) HN.out).mono ?_); rintro e w1 ⟨v, rfl, hv, hb1⟩
  obtain ⟨g, cap, rfl, hcap, hgB, hgl⟩ := hv.form h0
  go_wp2_with fail
  (with_reducible refine (reverse_calls _ g cap n l _ hv HN.out hn5).mono ?_); rintro e w2 ⟨rfl, hv2, hg2⟩
  go_wp2
  go_ret
  exact ⟨_, _, rfl, hv2.rdAt (by rw [List.length_reverse]; exact HN.out) (by omega), hg2.bel hb1 hgB⟩

/-- slices.Compare, of two rows the other way round. -/
theorem compareRev_calls (A0 A1 : Option Addr) (c0 c1 n : Nat) (l0 l1 : List Int) (w : World) (h0 : Rd w A0 l0.reverse) (h1 : Rd w A1 l1.reverse) (e0 : l0.length = n) (e1 : l1.length = n) :
    Calls Try.prog 55 #[.slice A0 n c0, .slice A1 n c1] w fun e w' => e = .returned (.int .i64 (cmpTop l0 l1 n)) ∧ w = w' := by
  have m0 := h0.max
  rw [List.length_reverse, e0] at m0
  have E0 := Ho.mk e0
  have E1 := Ho.mk e1
  have H0 := Ho.mk h0
  have H1 := Ho.mk h1
  clear e0 e1 h0 h1
  go_enter Try.func55, Try.ntmps55
  go_wp2
  go_loop [11] (fun v => ∃ i : Nat, i ≤ n ∧ v = .int .i64 i ∧ Ho (cmpTop l0 l1 (n - i) = cmpTop l0 l1 n)) (fun v => n - (intOf v).toNat)
  case atStart => exact ⟨0, Nat.zero_le _, rfl, ⟨by rw [Nat.sub_zero]⟩⟩
  case round =>
    obtain ⟨i, hi, rfl, ht⟩ := hrel
    rcases Nat.lt_or_ge i n with hlt | hge
    · obtain ⟨a0, rfl, x0⟩ := H0.out.cell i (by rw [List.length_reverse, E0.out]; exact hlt)
      obtain ⟨a1, rfl, x1⟩ := H1.out.cell i (by rw [List.length_reverse, E1.out]; exact hlt)
      rw [nth_rev (by rw [E0.out]; exact hlt), E0.out] at x0
      rw [nth_rev (by rw [E1.out]; exact hlt), E1.out] at x1
      obtain ⟨m, hm⟩ : ∃ m, n - i = m + 1 := ⟨n - i - 1, by omega⟩
      have hm2 : n - 1 - i = m := by omega
      rw [hm2] at x0 x1
      have ht2 := ht.out
      rw [hm] at ht2
      have hm3 : n - (i + 1) = m := by omega
      have HM3 := Ho.mk hm3
      by_cases hq : nth l0 m = nth l1 m
      · have ht' : Ho (cmpTop l0 l1 (n - (i + 1)) = cmpTop l0 l1 n) := ⟨by rw [hm3, ← ht2]; simp only [cmpTop]; rw [if_pos hq]⟩
        have hc : Ho (cmpI (nth l0 m) (nth l1 m) = 0) := ⟨cmpI_eq hq⟩
        clear hm hm2 hm3 ht2 hq ht
        go_wp2_with (go_at_call 44; (with_reducible refine (N5.compare_calls _ _ _).mono ?_); rintro e w' ⟨rfl, rfl⟩; rw [hc.out])
        go_round
        case rel => exact ⟨i + 1, by omega, by go_num, ht'⟩
        case measure => simp [intOf]; omega
      · have ht' : Ho (cmpI (nth l0 m) (nth l1 m) = cmpTop l0 l1 n) := ⟨by rw [← ht2]; simp only [cmpTop]; rw [if_neg hq]⟩
        have hb : (cmpI (nth l0 m) (nth l1 m) != 0) = true := by
          rw [bne_iff_ne]
          rcases Int.lt_or_gt_of_ne hq with h | h
          · rw [cmpI_lt h]; decide
          · rw [cmpI_gt h]; decide
        clear hm hm2 hm3 ht2 hq ht
        go_wp2_with (go_at_call 44; (with_reducible refine (N5.compare_calls _ _ _).mono ?_); rintro e w' ⟨rfl, rfl⟩)
        go_ret
        exact ⟨by rw [← ht'.out]; rfl, rfl⟩
    · obtain rfl : i = n := by omega
      have e := ht.out
      rw [Nat.sub_self] at e
      have EE := Ho.mk e
      clear e ht
      go_wp2
      go_ret
      exact ⟨by rw [← EE.out]; rfl, rfl⟩

theorem takeNo_calls (b0 b1 n : Nat) (l0 l1 : List Int) (w : World) (h0 : Blk w b0 3 (ints l0)) (h1 : Blk w b1 3 (ints l1)) (e0 : l0.length = n) (e1 : l1.length = n) (hn0 : 0 < n) (hn5 : n ≤ 100000) (hlt : cmpTop l0 l1 n < 0) :
    Calls Try.prog 48 #[.slice (some ⟨b0, 0, none⟩) n n, .slice (some ⟨b1, 0, none⟩) n n] w fun e w' => e = .returned (.bool false) ∧ Bel w w' := by
  have R0 := h0.rd (by omega)
  have R1 := h1.rd (by omega)
  go_enter Try.func48, Try.ntmps48
  go_wp2_with fail
  (with_reducible refine (reversed_calls _ _ _ l0 _ R0 e0 hn0 hn5).mono ?_); rintro e w1 ⟨A0, c0, rfl, hr0, hb1⟩
  go_wp2_with fail
  (with_reducible refine (reversed_calls _ _ _ l1 _ (R1.bel hb1) e1 hn0 hn5).mono ?_); rintro e w2 ⟨A1, c1, rfl, hr1, hb2⟩
  go_wp2_with fail
  (with_reducible refine (compareRev_calls _ _ _ _ n l0 l1 _ (hr0.bel hb2) hr1 e0 e1).mono ?_); rintro e w3 ⟨rfl, rfl⟩
  go_wp2
  go_ret
  exact ⟨rfl, hb1.trans hb2⟩

set_option maxHeartbeats 1000000 in
theorem takeYes_calls (b0 b1 n : Nat) (l0 l1 : List Int) (w : World) (h0 : Blk w b0 3 (ints l0)) (h1 : Blk w b1 3 (ints l1)) (e0 : l0.length = n) (e1 : l1.length = n) (hn0 : 0 < n) (hn5 : n ≤ 100000) (hlt : 0 ≤ cmpTop l0 l1 n)
    (hb : b0 ≠ b1) (hl0 : Lims l0) (hl1 : Lims l1) :
    Calls Try.prog 48 #[.slice (some ⟨b0, 0, none⟩) n n, .slice (some ⟨b1, 0, none⟩) n n] w
      fun e w' => e = .returned (.bool true) ∧ Blk w' b0 3 (ints (limbs n 0 (fun j => nth l0 j - nth l1 j))) ∧ Gr b0 w w' := by
  have R0 := h0.rd (by omega)
  have R1 := h1.rd (by omega)
  have HL0 := Ho.mk hl0
  have HL1 := Ho.mk hl1
  have E0 := Ho.mk e0
  have E1 := Ho.mk e1
  clear hl0 hl1 e0 e1
  go_enter Try.func48, Try.ntmps48
  go_wp2_with fail
  (with_reducible refine (reversed_calls _ _ _ l0 _ R0 E0.out hn0 hn5).mono ?_); rintro e w1 ⟨A0, c0, rfl, hr0, hb1⟩
  go_wp2_with fail
  (with_reducible refine (reversed_calls _ _ _ l1 _ (R1.bel hb1) E1.out hn0 hn5).mono ?_); rintro e w2 ⟨A1, c1, rfl, hr1, hb2⟩
  go_wp2_with fail
  (with_reducible refine (compareRev_calls _ _ _ _ n l0 l1 _ (hr0.bel hb2) hr1 E0.out E1.out).mono ?_); rintro e w3 ⟨rfl, rfl⟩
  have K0 := Ho.mk (h0.bel (hb1.trans hb2))
  have K1 := Ho.mk (h1.bel (hb1.trans hb2))
  have G2 := Ho.mk ((hb1.trans hb2).gr b0)
  have hbl0 := K0.out.lt
  have hbl1 := K1.out.lt
  have hw2 := (hb1.trans hb2).size
  clear R0 R1 hr0 hr1 hb1 hb2 h0 h1
  go_wp2_with fail
  obtain ⟨bc, hbc⟩ : ∃ bc, bc = w2.heap.size := ⟨_, rfl⟩
  have HBC := Ho.mk hbc
  rw [← HBC.out]
  have hne : b0 ≠ bc := by omega
  have hne1 : b1 ≠ bc := by omega
  have hne' : bc ≠ b0 := by omega
  clear hbc
  go_loopw [15] (fun v wr => ∃ (i : Nat) (c : Int) (d : List Int), i ≤ n ∧ v = .int .i64 i ∧ -1 ≤ c ∧ c ≤ 0 ∧ Ho (Blk wr b0 3 (ints (d ++ l0.drop i))) ∧ Ho (Blk wr b1 3 (ints l1)) ∧ Ho (Blk wr bc 45 [.int .i64 c]) ∧ Ho (Gr b0 w wr) ∧ Ho (d.length = i) ∧
      Ho (d ++ limbs (n - i) c (fun j => nth l0 (i + j) - nth l1 (i + j)) = limbs n 0 (fun j => nth l0 j - nth l1 j))) (fun v _ => n - (intOf v).toNat)
  case atStart =>
    exact ⟨0, 0, [], Nat.zero_le _, rfl, by omega, by omega, ⟨(by simpa using K0.out.old _)⟩, ⟨K1.out.old _⟩, ⟨by rw [HBC.out]; exact Blk.new w2 [.int .i64 0] _⟩, ⟨G2.out.alloc _⟩, ⟨rfl⟩, ⟨by simp⟩⟩
  case round =>
    obtain ⟨i, c, d, hi, rfl, hc0, hc1, KO, KB, KC, HG, HD, HE⟩ := hrel
    rcases Nat.lt_or_ge i n with hlt2 | hge
    · have hlen : i < (d ++ l0.drop i).length := by rw [List.length_append, List.length_drop, HD.out, E0.out]; omega
      have y0 := KO.out.cell (ints_at _ hlen)
      have e1 := nth_mid [] d l0 i (by rw [E0.out]; exact hlt2) HD.out
      simp only [List.nil_append, List.length_nil, Nat.zero_add] at e1
      rw [e1] at y0
      have y1 := KO.out.free i
      have y2 := KB.out.cell (ints_at l1 (i := i) (by rw [E1.out]; exact hlt2))
      obtain ⟨g0, g1⟩ := HL0.out.nth i
      obtain ⟨f0, f1⟩ := HL1.out.nth i
      have hin : (i : Int) < n := by omega
      clear hlen e1
      have hwr : IntKind.i64.wrap (nth l0 i - nth l1 i) = nth l0 i - nth l1 i := IntWalk.i64_in _ (by omega)
      go_wp2
      go_region_with ((go_at_call 38; refine (put_calls bc c _ _ (KC.out.drew) (by omega) (by omega) (by omega) (by omega)).mono ?_; rintro e w' ⟨rfl, rfl⟩))
      all_goals
        go_wp2
        go_roundw
        case rel =>
          have hd := limbs_step (fun j => nth l0 j - nth l1 j) i n c d hlt2
          have hk := ((KO.out.drew.far (p := ⟨bc, 0, none⟩) hne (.int .i64 ((nth l0 i - nth l1 i + c) / 16777216))).set i (.int .i64 ((nth l0 i - nth l1 i + c) % 16777216)))
          have e2 := set_mid [] d l0 i ((nth l0 i - nth l1 i + c) % 16777216) (by rw [E0.out]; exact hlt2) HD.out
          simp only [List.nil_append, List.length_nil, Nat.zero_add] at e2
          rw [ints_set, e2] at hk
          refine ⟨i + 1, (nth l0 i - nth l1 i + c) / 16777216, d ++ [(nth l0 i - nth l1 i + c) % 16777216], by omega, by simp, by omega, by omega, ⟨hk⟩, ⟨(KB.out.drew.far hne1 _).far (fun e => hb e.symm) _⟩, ⟨(KC.out.drew.set 0 _).far hne' _⟩, ⟨(HG.out.drew.setNew (by have := HBC.out; simp; omega) _).set i _⟩, ⟨by simp [HD.out]⟩, ⟨by rw [hd]; exact HE.out⟩⟩
        case measure => simp [intOf]; omega
    · obtain rfl : i = n := by omega
      have hd := HE.out
      rw [Nat.sub_self, limbs, List.append_nil] at hd
      have hk := KO.out
      rw [List.drop_eq_nil_of_le (by rw [E0.out]; exact Nat.le_refl _), List.append_nil, hd] at hk
      have HK := Ho.mk hk
      clear hd hk
      go_wp2
      go_ret
      exact ⟨rfl, HK.out, HG.out⟩
end Go.Proofs.Ytpgdiebmdcbgfaa.Nb
