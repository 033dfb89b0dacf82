/-
  The walks of package nat: sums and differences along two rows.
-/
import Derived.Test.YtnmjnjhijcnbcaaDoorN2
set_option linter.unusedVariables false
namespace Go.Proofs.YtnmjnjhijcnbcaaDoor.N3
open Go.RowKit Go.Proofs.YtnmjnjhijcnbcaaDoor Go.Proofs.YtnmjnjhijcnbcaaDoor.Ow Go.Proofs.YtnmjnjhijcnbcaaDoor.Pl Go.Proofs.YtnmjnjhijcnbcaaDoor.N1 Go.Proofs.YtnmjnjhijcnbcaaDoor.N2
theorem set_done (done : List Int) (i m : Nat) (v : Int) (h : done.length = i) (hi : i < m) : (done ++ List.replicate (m - i) 0).set i v = (done ++ [v]) ++ List.replicate (m - (i + 1)) 0 := by
  obtain ⟨d, hd⟩ : ∃ d, m - i = d + 1 := ⟨m - i - 1, by omega⟩
  rw [hd, show m - (i + 1) = d from by omega, List.set_append_right _ _ (by omega), h, Nat.sub_self, List.replicate_succ]
  simp

set_option maxHeartbeats 1000000 in
theorem alongAdd_calls (A0 A1 : Option Addr) (c0 c1 : Nat) (l0 l1 : List Int) (m b0 b1 : Nat) (mi : Int) (hmi : mi = (m : Int)) (w : World) (h0 : RdB b0 w A0 l0) (hc0 : l0.length ≤ c0) (h1 : RdB b0 w A1 l1) (hc1 : l1.length ≤ c1)
    (hm : m ≤ 100000) (hb : b0 < b1)
    (hf0 : ∀ i, 0 ≤ nth l0 i ∧ nth l0 i < 16777216) (hf1 : ∀ i, 0 ≤ nth l1 i ∧ nth l1 i < 16777216)
    (hB0 : Blk w b0 84 [.int .i64 0]) (hB1 : Blk w b1 85 [.func (.func 84) #[.pointer (some ⟨b0, 0, none⟩)] #[]]) :
    Calls Tryd.prog 85 #[.slice A0 l0.length c0, .slice A1 l1.length c1, .int .i64 mi, .func (.func 86) #[] #[.pointer (some ⟨b1, 0, none⟩)]] w
      fun e w' => ∃ A c, e = .returned (.slice A (trimL (limbs m 0 fun i => nth l0 i + nth l1 i)).length c) ∧ (trimL (limbs m 0 fun i => nth l0 i + nth l1 i)).length ≤ c ∧ Rd w' A (trimL (limbs m 0 fun i => nth l0 i + nth l1 i)) ∧ Below b0 w w' := by
  subst hmi
  have H0 := Ho.mk h0
  have H1 := Ho.mk h1
  have HB0 := Ho.mk hB0
  have HB1 := Ho.mk hB1
  have HF0 := Ho.mk hf0
  have HF1 := Ho.mk hf1
  clear h0 h1 hB0 hB1 hf0 hf1
  go_enter Tryd.func85, Tryd.ntmps85
  go_wp2_with (at_make; refine wpList_mk _ rfl _ _ 22 rfl 3 (.int .i64 0) 8 Tryd.underlying22 info3 rfl m rfl rfl (by omega) (by omega) ?_; intro w1 hk1 hl1 hs1)
  have hlt0 := HB0.out.lt
  have hlt1 := HB1.out.lt
  obtain ⟨bo, hbo⟩ : ∃ bo, bo = w.heap.size := ⟨_, rfl⟩
  rw [← hbo] at hk1 hs1 hlt0 hlt1 ⊢
  have HK1 := Ho.mk hk1
  have HL1 := Ho.mk hl1
  have HBO := Ho.mk hbo
  have HS1 : bo < w1.heap.size := by omega
  clear hk1 hl1 hbo hs1
  go_loopw [16] (fun v16 wr => ∃ (i : Nat) (cr : Int) (done : List Int), i ≤ m ∧ v16 = .int .i64 i ∧ 0 ≤ cr ∧ cr ≤ 2 ∧
      Ho (Blk wr b0 84 [.int .i64 cr]) ∧ Ho (Blk wr b1 85 [.func (.func 84) #[.pointer (some ⟨b0, 0, none⟩)] #[]]) ∧ 
      Ho (Blk wr bo 3 (ints (done ++ List.replicate (m - i) 0))) ∧ Ho (Below b0 w wr) ∧ Ho (w.heap.size < wr.heap.size) ∧ Ho (done.length = i) ∧
      Ho (done ++ limbs (m - i) cr (fun j => nth l0 (i + j) + nth l1 (i + j)) = limbs m 0 fun j => nth l0 j + nth l1 j)) (fun v16 _ => m - (intOf v16).toNat)
  case atStart =>
    exact ⟨0, 0, [], Nat.zero_le _, rfl, by omega, by omega, ⟨HB0.out.bel HL1.out⟩, ⟨HB1.out.bel HL1.out⟩, ⟨by rw [Nat.sub_zero, List.nil_append, ← ints_rep]; exact HK1.out⟩, ⟨HL1.out.out.mono (by have := HBO.out; omega)⟩, ⟨by have := HBO.out; omega⟩, ⟨rfl⟩, ⟨by simp⟩⟩
  case round =>
    obtain ⟨i, cr, done, hi, rfl, hc1, hc2, K0, K1, KO, HW, HS, HD, HF⟩ := hrel
    rcases Nat.lt_or_ge i m with hlt | hge
    · have R0 := Ho.mk (H0.out.below HW.out)
      have R1 := Ho.mk (H1.out.below HW.out)
      have f0 := HF0.out i
      have f1 := HF1.out i
      obtain ⟨g00, g01⟩ := f0
      obtain ⟨g10, g11⟩ := f1
      have hlen : i < (done ++ List.replicate (m - i) (0 : Int)).length := by simp [HD.out]; omega
      have y0 := KO.out.cell (ints_at _ hlen)
      have y1 := KO.out.free i
      have hn1 : ¬ bo = b0 := by omega
      have hn2 : ¬ b0 = bo := by omega
      clear hlen
      go_wp2_with (first | (go_at_call 101; ((with_reducible first | refine (get_calls _ _ l0 i _ R0.out).mono ?_ | refine (get_calls _ _ l1 i _ R1.out).mono ?_); rintro e w' ⟨rfl, rfl⟩)) | (go_at_call 86; (with_reducible refine (add1_calls b0 b1 cr _ _ _ K0.out K1.out (by omega) (by omega) (by omega) (by omega) (by omega) (by omega)).mono ?_); rintro e w' ⟨rfl, rfl⟩))
      go_roundw
      case rel =>
        have hd := limbs_step (fun j => nth l0 j + nth l1 j) i m cr done hlt
        refine ⟨i + 1, (nth l0 i + nth l1 i + cr) / 16777216, done ++ [(nth l0 i + nth l1 i + cr) % 16777216], by omega, by simp, by omega, by omega, ⟨(K0.out.set 0 _).far hn2 _⟩, ⟨(K1.out.far (by simp; omega) _).far (by simp; omega) _⟩, ⟨?_⟩, ⟨(HW.out.setCell (by simp) _).setCell (by simp; omega) _⟩, ⟨by simpa [World.setCell] using HS.out⟩, ⟨by simp [HD.out]⟩, ⟨by rw [hd]; exact HF.out⟩⟩
        have hk := (KO.out.far hn1 (p := ⟨b0, 0, none⟩) (.int .i64 ((nth l0 i + nth l1 i + cr) / 16777216))).set i (.int .i64 ((nth l0 i + nth l1 i + cr) % 16777216))
        rw [ints_set, set_done _ _ _ _ HD.out hlt] at hk
        exact hk
      case measure => simp [intOf]; omega
    · obtain rfl : i = m := by omega
      have ed : done = limbs i 0 fun j => nth l0 j + nth l1 j := by have := HF.out; rwa [Nat.sub_self, limbs, List.append_nil] at this
      have R : Rd wr (some ⟨bo, 0, none⟩) done := by
        have := KO.out.rd (by simp [HD.out]; omega)
        rwa [Nat.sub_self, List.replicate_zero, List.append_nil] at this
      have HR := Ho.mk R
      have HE := Ho.mk ed
      clear R ed
      go_wp2_with (go_at_call 91; rw [← HD.out]; refine (trim_calls _ _ _ _ HR.out (Nat.le_refl _)).mono ?_; rintro e w' ⟨rfl, rfl⟩)
      go_ret
      rw [← HE.out]
      exact ⟨_, _, rfl, by have := trimN_le done done.length; simp [trimL]; omega, HR.out.take _, HW.out⟩

set_option maxHeartbeats 1000000 in
theorem alongSub_calls (A0 A1 : Option Addr) (c0 c1 : Nat) (l0 l1 : List Int) (m b0 : Nat) (mi : Int) (hmi : mi = (m : Int)) (w : World) (h0 : RdB b0 w A0 l0) (hc0 : l0.length ≤ c0) (h1 : RdB b0 w A1 l1) (hc1 : l1.length ≤ c1)
    (hm : m ≤ 100000) 
    (hf0 : ∀ i, 0 ≤ nth l0 i ∧ nth l0 i < 16777216) (hf1 : ∀ i, 0 ≤ nth l1 i ∧ nth l1 i < 16777216)
    (hB0 : Blk w b0 84 [.int .i64 0]) :
    Calls Tryd.prog 85 #[.slice A0 l0.length c0, .slice A1 l1.length c1, .int .i64 mi, .func (.func 88) #[] #[.pointer (some ⟨b0, 0, none⟩)]] w
      fun e w' => ∃ A c, e = .returned (.slice A (trimL (limbs m 0 fun i => nth l0 i - nth l1 i)).length c) ∧ (trimL (limbs m 0 fun i => nth l0 i - nth l1 i)).length ≤ c ∧ Rd w' A (trimL (limbs m 0 fun i => nth l0 i - nth l1 i)) ∧ Below b0 w w' := by
  subst hmi
  have H0 := Ho.mk h0
  have H1 := Ho.mk h1
  have HB0 := Ho.mk hB0
  skip
  have HF0 := Ho.mk hf0
  have HF1 := Ho.mk hf1
  clear h0 h1 hB0  hf0 hf1
  go_enter Tryd.func85, Tryd.ntmps85
  go_wp2_with (at_make; refine wpList_mk _ rfl _ _ 22 rfl 3 (.int .i64 0) 8 Tryd.underlying22 info3 rfl m rfl rfl (by omega) (by omega) ?_; intro w1 hk1 hl1 hs1)
  have hlt0 := HB0.out.lt
  skip
  obtain ⟨bo, hbo⟩ : ∃ bo, bo = w.heap.size := ⟨_, rfl⟩
  rw [← hbo] at hk1 hs1 hlt0  ⊢
  have HK1 := Ho.mk hk1
  have HL1 := Ho.mk hl1
  have HBO := Ho.mk hbo
  have HS1 : bo < w1.heap.size := by omega
  clear hk1 hl1 hbo hs1
  go_loopw [16] (fun v16 wr => ∃ (i : Nat) (cr : Int) (done : List Int), i ≤ m ∧ v16 = .int .i64 i ∧ -1 ≤ cr ∧ cr ≤ 0 ∧
      Ho (Blk wr b0 84 [.int .i64 cr]) ∧ 
      Ho (Blk wr bo 3 (ints (done ++ List.replicate (m - i) 0))) ∧ Ho (Below b0 w wr) ∧ Ho (w.heap.size < wr.heap.size) ∧ Ho (done.length = i) ∧
      Ho (done ++ limbs (m - i) cr (fun j => nth l0 (i + j) - nth l1 (i + j)) = limbs m 0 fun j => nth l0 j - nth l1 j)) (fun v16 _ => m - (intOf v16).toNat)
  case atStart =>
    exact ⟨0, 0, [], Nat.zero_le _, rfl, by omega, by omega, ⟨HB0.out.bel HL1.out⟩, ⟨by rw [Nat.sub_zero, List.nil_append, ← ints_rep]; exact HK1.out⟩, ⟨HL1.out.out.mono (by have := HBO.out; omega)⟩, ⟨by have := HBO.out; omega⟩, ⟨rfl⟩, ⟨by simp⟩⟩
  case round =>
    obtain ⟨i, cr, done, hi, rfl, hc1, hc2, K0, KO, HW, HS, HD, HF⟩ := hrel
    rcases Nat.lt_or_ge i m with hlt | hge
    · have R0 := Ho.mk (H0.out.below HW.out)
      have R1 := Ho.mk (H1.out.below HW.out)
      have f0 := HF0.out i
      have f1 := HF1.out i
      obtain ⟨g00, g01⟩ := f0
      obtain ⟨g10, g11⟩ := f1
      have hlen : i < (done ++ List.replicate (m - i) (0 : Int)).length := by simp [HD.out]; omega
      have y0 := KO.out.cell (ints_at _ hlen)
      have y1 := KO.out.free i
      have hn1 : ¬ bo = b0 := by omega
      have hn2 : ¬ b0 = bo := by omega
      clear hlen
      go_wp2_with (first | (go_at_call 101; ((with_reducible first | refine (get_calls _ _ l0 i _ R0.out).mono ?_ | refine (get_calls _ _ l1 i _ R1.out).mono ?_); rintro e w' ⟨rfl, rfl⟩)) | (go_at_call 88; (with_reducible refine (sub1_calls b0 cr _ _ _ K0.out (by omega) (by omega) (by omega) (by omega) (by omega) (by omega)).mono ?_); rintro e w' ⟨rfl, rfl⟩))
      go_roundw
      case rel =>
        have hd := limbs_step (fun j => nth l0 j - nth l1 j) i m cr done hlt
        refine ⟨i + 1, (nth l0 i - nth l1 i + cr) / 16777216, done ++ [(nth l0 i - nth l1 i + cr) % 16777216], by omega, by simp, by omega, by omega, ⟨(K0.out.set 0 _).far hn2 _⟩, ⟨?_⟩, ⟨(HW.out.setCell (by simp) _).setCell (by simp; omega) _⟩, ⟨by simpa [World.setCell] using HS.out⟩, ⟨by simp [HD.out]⟩, ⟨by rw [hd]; exact HF.out⟩⟩
        have hk := (KO.out.far hn1 (p := ⟨b0, 0, none⟩) (.int .i64 ((nth l0 i - nth l1 i + cr) / 16777216))).set i (.int .i64 ((nth l0 i - nth l1 i + cr) % 16777216))
        rw [ints_set, set_done _ _ _ _ HD.out hlt] at hk
        exact hk
      case measure => simp [intOf]; omega
    · obtain rfl : i = m := by omega
      have ed : done = limbs i 0 fun j => nth l0 j - nth l1 j := by have := HF.out; rwa [Nat.sub_self, limbs, List.append_nil] at this
      have R : Rd wr (some ⟨bo, 0, none⟩) done := by
        have := KO.out.rd (by simp [HD.out]; omega)
        rwa [Nat.sub_self, List.replicate_zero, List.append_nil] at this
      have HR := Ho.mk R
      have HE := Ho.mk ed
      clear R ed
      go_wp2_with (go_at_call 91; rw [← HD.out]; refine (trim_calls _ _ _ _ HR.out (Nat.le_refl _)).mono ?_; rintro e w' ⟨rfl, rfl⟩)
      go_ret
      rw [← HE.out]
      exact ⟨_, _, rfl, by have := trimN_le done done.length; simp [trimL]; omega, HR.out.take _, HW.out⟩

end Go.Proofs.YtnmjnjhijcnbcaaDoor.N3
