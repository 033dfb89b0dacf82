/-
  The walks of package nat: shifts up.
-/
import Derived.Test.YtnmjnjhijcnbcaaDoorN6
import Derived.Laws.CopyOwn
set_option linter.unusedVariables false
namespace Go.Proofs.YtnmjnjhijcnbcaaDoor.N9
open Go.RowKit Go.Proofs.YtnmjnjhijcnbcaaDoor Go.Proofs.YtnmjnjhijcnbcaaDoor.Ow Go.Proofs.YtnmjnjhijcnbcaaDoor.Pl Go.Proofs.YtnmjnjhijcnbcaaDoor.N1 Go.Proofs.YtnmjnjhijcnbcaaDoor.N2 Go.Proofs.YtnmjnjhijcnbcaaDoor.N3

set_option maxHeartbeats 2000000 in
theorem shl_calls (A0 : Option Addr) (c0 x kn : Nat) (k : Int) (w : World) (h0 : Rd w A0 (digs x)) (hc0 : (digs x).length ≤ c0)
    (hx : (digs x).length ≤ 50000) (hk : kn = k.toNat) (hkn : kn ≤ 100000) :
    Calls Tryd.prog 83 #[.slice A0 (digs x).length c0, .int .i64 k] w
      fun e w' => ∃ A c, e = .returned (.slice A (digs (x * 2 ^ kn)).length c) ∧ (digs (x * 2 ^ kn)).length ≤ c ∧ Rd w' A (digs (x * 2 ^ kn)) ∧ Bel w w' := by
  have F0 := Ho.mk (digs_can x).1
  have HF := Ho.mk (shl_digs x kn)
  generalize digs x = l at *
  have r0 := h0.rdB
  obtain ⟨bo, hbo⟩ : ∃ bo, bo = w.heap.size := ⟨_, rfl⟩
  rw [← hbo] at r0
  have HBO := Ho.mk hbo
  obtain ⟨sk, hsk⟩ : ∃ sk, sk = kn / 24 := ⟨_, rfl⟩
  obtain ⟨by_, hby⟩ : ∃ b, b = kn % 24 := ⟨_, rfl⟩
  obtain ⟨m, hm⟩ : ∃ m, m = sk + (l.length + 1) := ⟨_, rfl⟩
  have hmax : (if k < 0 then 0 else k) = (kn : Int) := by split <;> omega
  have hq : (kn : Int) / 24 = sk := by omega
  have hr : (kn : Int) % 24 = by_ := by omega
  have hm2 : (sk : Int) + l.length + 1 = m := by omega
  have hby24 : by_ < 24 := by omega
  obtain ⟨p, hp⟩ : ∃ p : Int, p = ((2 ^ by_ : Nat) : Int) := ⟨_, rfl⟩
  have HPP := Ho.mk hp
  have HSK := Ho.mk hsk
  have HBY := Ho.mk hby
  have HM := Ho.mk hm
  have HK := Ho.mk hk
  clear hbo hsk hby hm hk hp
  go_enter Tryd.func83, Tryd.ntmps83
  go_wp2_with (first | (at_make; refine wpList_mk _ rfl _ _ 22 rfl 3 (.int .i64 0) 8 Tryd.underlying22 info3 rfl m rfl rfl (by have := HM.out; have := HSK.out; omega) (by have := HM.out; have := HSK.out; omega) ?_; intro w1 hk1 hl1 hs1; rw [← HBO.out] at hk1 hs1 ⊢; rw [ints_rep] at hk1) | ((with_reducible refine wpList_cp _ rfl (.tmp 24) (.tmp 25) 22 rfl 3 Tryd.underlying22 size3 bo sk A0 (m - sk) (m - sk) l.length c0 l rfl rfl rfl (ints (List.replicate m 0)) hk1 (h0.bel hl1) ?_ ?_ ?_); (have := HM.out; omega); (rw [ints_len, List.length_replicate]; have := HM.out; omega); intro w2 hk2 hg2))
  have e0 : (ints (List.replicate m 0)).take sk ++ (ints l ++ (ints (List.replicate m 0)).drop (sk + l.length)) = ints (List.replicate sk 0 ++ ([] ++ (l ++ [0]).drop 0)) := by
    have hm' : m - (sk + l.length) = 1 := by have := HM.out; omega
    simp only [ints, ← List.map_take, ← List.map_drop, ← List.map_append, List.take_replicate, List.drop_replicate, hm', List.drop_zero, List.nil_append]
    rw [Nat.min_eq_left (by have := HM.out; omega)]
    rfl
  rw [e0] at hk2
  have HK2 := Ho.mk hk2
  have HB2 := Ho.mk (hg2.below (hl1.out.mono (Nat.le_of_eq HBO.out)) (Nat.le_refl _) (by omega))
  have hs2 : bo < w2.heap.size := Nat.lt_of_lt_of_le (by omega) hg2.size
  clear e0 hk2 hg2 hk1 hl1 hs1
  obtain ⟨bc, hbc⟩ : ∃ bc, bc = w2.heap.size := ⟨_, rfl⟩
  have HBC := Ho.mk hbc
  rw [← hbc]
  clear hbc
  go_loopw [9] (fun v wr => ∃ (i : Nat) (c : Int) (d : List Int), i ≤ l.length + 1 ∧ v = .int .i64 ((sk + i : Nat) : Int) ∧ 0 ≤ c ∧ c ≤ 16777216 ∧ Ho (Blk wr bo 3 (ints (List.replicate sk 0 ++ (d ++ (l ++ [0]).drop i)))) ∧ Ho (Blk wr bc 84 [.int .i64 c]) ∧ Ho (Below bo w wr) ∧ bo < wr.heap.size ∧ Ho (d.length = i) ∧ Ho (Lims d) ∧
      Ho (d ++ limbs (l.length + 1 - i) c (fun j => nth l (i + j) * p) = limbs (l.length + 1) 0 (fun j => nth l j * p))) (fun v _ => sk + (l.length + 1) - (intOf v).toNat)
  case atStart =>
    exact ⟨0, 0, [], by omega, by simp, by omega, by omega, ⟨HK2.out.old _⟩, ⟨by rw [HBC.out]; exact Blk.new w2 [.int .i64 0] _⟩, ⟨HB2.out.alloc (by omega) _⟩, by simp; omega, ⟨rfl⟩, ⟨fun x hx => by simp at hx⟩, ⟨by simp⟩⟩
  case round =>
    obtain ⟨i, c, d, hi, rfl, hc0, hc1, KO, KC, HW, hs, HD, HL, HE⟩ := hrel
    have hne : bo ≠ bc := by have := HBC.out; omega
    have hne' : bc ≠ bo := fun e => hne e.symm
    rcases Nat.lt_or_ge i (l.length + 1) with hlt | hge
    · have hlen : sk + i < (List.replicate sk (0 : Int) ++ (d ++ (l ++ [0]).drop i)).length := by simp [HD.out]; omega
      have y0 := KO.out.cell (ints_at _ hlen)
      have e1 := nth_mid (List.replicate sk 0) d (l ++ [0]) i (by simp; omega) HD.out
      rw [List.length_replicate] at e1
      rw [e1, nth_snoc] at y0
      have y1 := KO.out.free (sk + i)
      have hm3 : (sk : Int) + i < m := by have := HM.out; omega
      obtain ⟨g0, g1⟩ := F0.out.nth i
      clear hlen e1
      have hw : Ho (wrap64 (nth l i * 2 ^ by_) = nth l i * p ∧ 0 ≤ nth l i * p ∧ nth l i * p ≤ 140737479966720) := ⟨by rw [HPP.out]; exact shl_wrap g0 g1 hby24⟩
      go_wp2_with (go_at_call 84; rw [hw.out.1]; (with_reducible refine (put_calls bc c _ _ KC.out (by have := hw.out.2; omega) (by have := hw.out.2; omega) (by omega) (by omega)).mono ?_); rintro e w' ⟨rfl, rfl⟩)
      go_roundw
      case rel =>
        obtain ⟨p0, p1⟩ := hw.out.2
        have hd := limbs_step (fun j => nth l j * p) i (l.length + 1) c d hlt
        have hk := (KO.out.far (p := ⟨bc, 0, none⟩) hne (.int .i64 ((nth l i * p + c) / 16777216))).set (sk + i) (.int .i64 ((nth l i * p + c) % 16777216))
        have e2 := set_mid (List.replicate sk 0) d (l ++ [0]) i ((nth l i * p + c) % 16777216) (by simp; omega) HD.out
        rw [List.length_replicate] at e2
        rw [ints_set, e2] at hk
        refine ⟨i + 1, _, _, by omega, by simp; omega, ?_, ?_, ⟨hk⟩, ⟨(KC.out.set 0 _).far hne' _⟩, ⟨(HW.out.setCell (by have := HBC.out; simp; omega) _).setCell (by simp) _⟩, by simpa [World.setCell] using hs, ⟨by simp [HD.out]⟩, ⟨lims_append HL.out (fun x hx => by simp at hx; subst hx; omega)⟩, ⟨by rw [hd]; exact HE.out⟩⟩
        all_goals
          generalize nth l i * p = z at p0 p1 ⊢
          omega
      case measure => simp [intOf]; omega
    · obtain rfl : i = l.length + 1 := by omega
      have hm3 : decide ((sk : Int) + (l.length + 1) < m) = false := decide_eq_false (by have := HM.out; omega)
      have R : Rd wr (some ⟨bo, 0, none⟩) (List.replicate sk 0 ++ d) := by
        have := KO.out.rd (by simp [HD.out]; have := HSK.out; omega)
        rwa [List.drop_eq_nil_of_le (by simp), List.append_nil] at this
      have hlen : (List.replicate sk (0 : Int) ++ d).length = m := by simp [HD.out]; have := HM.out; omega
      have HE2 : Ho (trimL (List.replicate sk 0 ++ d) = digs (x * 2 ^ kn)) := ⟨by
        have e3 := HE.out
        rw [Nat.sub_self, limbs, List.append_nil] at e3
        have e4 := HF.out
        rw [← HSK.out, ← HBY.out, ← HPP.out, ← e3] at e4
        exact e4⟩
      have HLn := Ho.mk hlen
      clear hlen
      go_wp2_with (go_at_call 91; rw [← HLn.out]; (with_reducible refine (trim_calls _ _ _ _ R (Nat.le_refl _)).mono ?_); rintro e w' ⟨rfl, rfl⟩)
      go_ret
      rw [← HE2.out]
      exact ⟨_, _, rfl, by have := trimN_le (List.replicate sk (0 : Int) ++ d) (List.replicate sk (0 : Int) ++ d).length; simp [trimL]; omega, R.take _, ⟨by rw [← HBO.out]; exact HW.out⟩⟩
end Go.Proofs.YtnmjnjhijcnbcaaDoor.N9
