/-
  The walks of package nat: a copy; shifts down.
-/
import Derived.Test.YtnmjnjhijcnbcaaDoorN6
import Derived.Lib.SliceRun
import Derived.RegionTactic
import Derived.StillTailTactics
import Derived.IntWalk
set_option linter.unusedVariables false
namespace Go.Proofs.YtnmjnjhijcnbcaaDoor.Na
open Go.RowKit Go.Proofs.YtnmjnjhijcnbcaaDoor Go.Proofs.YtnmjnjhijcnbcaaDoor.Ow Go.Proofs.YtnmjnjhijcnbcaaDoor.Pl Go.Proofs.YtnmjnjhijcnbcaaDoor.N1 Go.Proofs.YtnmjnjhijcnbcaaDoor.N2 Go.Proofs.YtnmjnjhijcnbcaaDoor.N3

/-- slices.Clone, of a row that is not nil. -/
theorem clone_calls (ad : Addr) (n c : Nat) (l : List Int) (w : World) (h : Rd w (some ad) l) (hl : l.length ≤ 100000) (hn : l.length = n) :
    Calls Tryd.prog 93 #[.slice (some ad) n c] w
      fun e w' => ∃ v, e = .returned v ∧ Own w' w.heap.size 3 1 v n (ints l) ∧ Bel w w' := by
  subst hn
  have hnil := fun w => Lib.run_eql_slice_nil (P := Tryd.prog) w 22 3 (some ad) l.length c 0 0 Tryd.underlying22
  obtain ⟨i0, hi, hz0, hz1, hz2⟩ := info_parts info3
  have H := Ho.mk h
  clear h
  go_enter Tryd.func93, Tryd.ntmps93
  go_wp2_with (at_builtin; (with_reducible refine wpList_apps _ rfl (.tmp 5) (.tmp 6) 22 rfl w.heap.size 3 (.int .i64 0) 8 Tryd.underlying22 info3 rfl _ 0 [] rfl (Own.lit _ _ (Nat.le_refl _)) ad l.length c (ints l) rfl (ints_len l) ((H.out.bel ((Bel.refl w).alloc _)).news) (ints_one l) (by omega) (by omega) (by simp) ?_); intro v w1 hv hb)
  go_ret
  have hv' := Own.mk hv.out
  rw [Nat.zero_add] at hv'
  exact ⟨v, rfl, hv', ⟨((Below.refl _ w).alloc (Nat.le_refl _) _).trans hb⟩⟩

set_option maxHeartbeats 2000000 in
theorem shr_calls (A0 : Option Addr) (c0 x kn : Nat) (k : Int) (w : World) (h0 : Rd w A0 (digs x)) (hc0 : (digs x).length ≤ c0)
    (hx : (digs x).length ≤ 50000) (hk : kn = k.toNat) (hkn : kn ≤ 100000) :
    Calls Tryd.prog 66 #[.slice A0 (digs x).length c0, .int .i64 k] w
      fun e w' => ∃ A c, e = .returned (.slice A (digs (x / 2 ^ kn)).length c) ∧ (digs (x / 2 ^ kn)).length ≤ c ∧ Rd w' A (digs (x / 2 ^ kn)) ∧ Bel w w' := by
  have F0 := Ho.mk (digs_can x).1
  have HF := Ho.mk (shr_digs x kn)
  generalize digs x = l at *
  have r0 := h0.rdB
  obtain ⟨sk, hsk⟩ : ∃ sk, sk = kn / 24 := ⟨_, rfl⟩
  obtain ⟨by_, hby⟩ : ∃ b, b = kn % 24 := ⟨_, rfl⟩
  have hmax : (if k < 0 then 0 else k) = (kn : Int) := by split <;> omega
  have hq : (kn : Int) / 24 = sk := by omega
  have hr : (kn : Int) % 24 = by_ := by omega
  have hby24 : by_ < 24 := by omega
  have HSK := Ho.mk hsk
  have HBY := Ho.mk hby
  have HK := Ho.mk hk
  rw [← hsk, ← hby] at HF
  clear hsk hby hk
  rcases Nat.lt_or_ge sk l.length with hlt | hge
  · obtain ⟨n, hn⟩ : ∃ n, n = l.length - sk := ⟨_, rfl⟩
    have hn1 : l.length = sk + n := by omega
    obtain ⟨ad, rfl, _⟩ := h0.cell 0 (by omega)
    have hR := h0.drop sk
    have HL := Ho.mk (show (l.drop sk).length = n by rw [List.length_drop]; omega)
    have HN := Ho.mk hn1
    have hn5 : n ≤ 50000 := by omega
    have hlt' : (sk : Int) < l.length := by omega
    clear hn1 hn
    go_enter Tryd.func66, Tryd.ntmps66
    go_wp2_with fail
    rw [hr]
    (with_reducible refine (clone_calls (ad.add sk) _ _ (l.drop sk) _ hR (by rw [List.length_drop]; omega) (by rw [List.length_drop])).mono ?_); rintro e w1 ⟨v, rfl, hv, hb1⟩
    obtain ⟨g, cap, rfl, hcap, hgB, hgl⟩ := hv.form (by omega)
    have hv2 : Own w1 w.heap.size 3 1 (.slice (some ⟨g, 0, none⟩) n cap) n (ints (l.drop sk)) := by
      have := HL.out
      rw [List.length_drop] at this
      rw [this] at hv; exact hv
    have HN2 : Ho (l.length - sk = n) := ⟨by have := HN.out; omega⟩
    rw [HN2.out] at hcap ⊢
    have HV := Ho.mk hv2
    have HB1 := Ho.mk hb1
    clear hv hv2 hb1
    go_wp2_with fail
    obtain ⟨p, hp⟩ : ∃ p : Int, p = ((2 ^ by_ : Nat) : Int) := ⟨_, rfl⟩
    obtain ⟨q, hqq⟩ : ∃ q : Int, q = ((2 ^ (24 - by_) : Nat) : Int) := ⟨_, rfl⟩
    obtain ⟨cb, hcb⟩ : ∃ cb : Nat, cb = 24 - by_ := ⟨_, rfl⟩
    have hcb2 : (24 : Int) - by_ = cb := by omega
    obtain ⟨S, hS⟩ : ∃ S, S = shrL p q (l.drop sk) := ⟨_, rfl⟩
    have HP := Ho.mk hp
    have HQ := Ho.mk hqq
    have HCB := Ho.mk hcb
    have HSS := Ho.mk hS
    have HSL : Ho (S.length = n) := ⟨by rw [hS, shrL_len]; exact HL.out⟩
    clear hp hqq hcb hS
    go_loopw [25] (fun v wr => ∃ i : Nat, i ≤ n ∧ v = .int .i64 i ∧ Ho (Own wr w.heap.size 3 1 (.slice (some ⟨g, 0, none⟩) n cap) n (ints (S.take i ++ (l.drop sk).drop i))) ∧ Ho (Below w.heap.size w wr)) (fun v _ => n - (intOf v).toNat)
    case atStart => exact ⟨0, Nat.zero_le _, rfl, ⟨by simpa using HV.out⟩, ⟨HB1.out.out⟩⟩
    case round =>
      obtain ⟨i, hi, rfl, HV', HW⟩ := hrel
      rcases Nat.lt_or_ge i n with hlt2 | hge2
      · have hiu : i < (l.drop sk).length := by rw [HL.out]; exact hlt2
        have hSl : S.length = (l.drop sk).length := by rw [HL.out]; exact HSL.out
        have hlen : i < (S.take i ++ (l.drop sk).drop i).length := by rw [List.length_append, List.length_take, List.length_drop]; omega
        have y0 := HV'.out.cell (ints_at _ hlen)
        rw [nth_td S _ i hSl hiu] at y0
        have y1 := HV'.out.free i
        obtain ⟨g0, g1⟩ := (F0.out.drop sk).nth i
        obtain ⟨a, ha⟩ : ∃ a, a = nth (l.drop sk) i := ⟨_, rfl⟩
        rw [← ha] at y0 g0 g1
        have HA := Ho.mk ha
        have HLEN := Ho.mk hlen
        clear ha hiu hSl hlen
        by_cases hnx : sk + i + 1 < l.length
        · obtain ⟨ad', e', z0⟩ := (r0.below HW.out).cell (sk + i + 1) hnx
          cases e'
          obtain ⟨b, hb⟩ : ∃ b, b = nth l (sk + i + 1) := ⟨_, rfl⟩
          obtain ⟨f0, f1⟩ := F0.out.nth (sk + i + 1)
          rw [← hb] at z0 f0 f1
          have HBb := Ho.mk hb
          have hnx' : (sk : Int) + i + 1 < l.length := by omega
          clear hb hnx
          go_wp2
          have y2 := (HV'.out.set i (.int .i64 (a / 2 ^ by_)))
          rw [ints_set] at y2
          have y3 := y2.cell (j := i) (u := .int .i64 (a / 2 ^ by_)) (by rw [← ints_set, List.getElem?_set_self (by rw [ints_len]; exact HLEN.out)])
          have y4 := y2.free i
          have z1 : (wr.setCell ⟨g, i, none⟩ (.int .i64 (a / 2 ^ by_))).cell? (ad.add (sk + i + 1)) = some (.int .i64 b) :=
            (World.cell?_of_block (Below.heap_setCell wr ⟨g, i, none⟩ _ (ad.add (sk + i + 1)).block (by rw [add_block]; have := r0.lt ad rfl (by omega); show ad.block ≠ g; omega))).trans z0
          have w3 := HW.out.setCell (p := ⟨g, i, none⟩) (by show w.heap.size ≤ g; omega) (.int .i64 (a / 2 ^ by_))
          have Y2 := Ho.mk y2
          have W3 := Ho.mk w3
          clear y2 w3 y0 y1 z0
          generalize wr.setCell ⟨g, i, none⟩ (.int .i64 (a / 2 ^ by_)) = wq at *
          obtain ⟨u1, hu1⟩ : ∃ u1 : Int, u1 = a / 2 ^ by_ := ⟨_, rfl⟩
          rw [← hu1] at y3 Y2 ⊢
          have HU := Ho.mk hu1
          clear hu1
          have q1 : IntKind.i64.wrap ((sk : Int) + i) = (sk : Int) + i := IntWalk.i64_in _ (by omega)
          have q2 : IntKind.i64.wrap ((sk : Int) + i + 1) = (sk : Int) + i + 1 := IntWalk.i64_in _ (by omega)
          have q3 : 0 ≤ (sk : Int) + i + 1 := by omega
          have q4 : ((sk : Int) + i + 1).toNat = sk + i + 1 := by omega
          have q5 : IntKind.i64.wrap ((24 : Int) - by_) = cb := (IntWalk.i64_in _ (by omega)).trans hcb2
          have z2 : wq.cell? ⟨ad.block, ad.off + (sk + i + 1), none⟩ = some (.int .i64 b) := z1
          go_region
          have hval := shr_or hby24 g0 g1 f0 f1
          have hres : Ho (bits .or .i64 u1 (bits .and .i64 (wrap64 (b * 2 ^ cb)) 16777215) = nth S i) := ⟨by
            have hiu : i < (l.drop sk).length := by rw [HL.out]; exact hlt2
            have hbn : nth (l.drop sk) (i + 1) = b := by rw [HBb.out]; simp [nth, Nat.add_assoc]
            rw [HU.out, HCB.out, hval, HSS.out, shrL_nth _ _ _ _ hiu, ← HA.out, HP.out, HQ.out, hbn]⟩
          clear hval z1 z2 q1 q2 q3 q4 q5
          rw [hres.out]
          have Y5 := (Y2.out.set i (.int .i64 (nth S i))).drew
          have W5 := (W3.out.setCell (p := ⟨g, i, none⟩) (by show w.heap.size ≤ g; omega) (.int .i64 (nth S i))).drew
          rw [ints_set, List.set_set, set_td S _ i (by rw [HL.out]; exact HSL.out) (by rw [HL.out]; exact hlt2)] at Y5
          have Y6 := Ho.mk Y5
          have W6 := Ho.mk W5
          clear Y5 W5 y3 y4
          generalize (wq.setCell ⟨g, i, none⟩ (.int .i64 (nth S i))).drew = w7 at *
          go_wp2
          go_roundw
          case rel => exact ⟨i + 1, by omega, by simp, Y6, W6⟩
          case measure => simp [intOf]; omega
        · have hnx' : (l.length : Int) ≤ (sk : Int) + i + 1 := by omega
          have hbn : nth (l.drop sk) (i + 1) = 0 := nth_ge (by rw [List.length_drop]; omega)
          have hres : Ho (a / 2 ^ by_ = nth S i) := ⟨by
            have hiu : i < (l.drop sk).length := by rw [HL.out]; exact hlt2
            rw [HSS.out, shrL_nth _ _ _ _ hiu, ← HA.out, hbn, HP.out]
            simp⟩
          have Y5 := (HV'.out.set i (.int .i64 (a / 2 ^ by_)))
          have W5 := (HW.out.setCell (p := ⟨g, i, none⟩) (by show w.heap.size ≤ g; omega) (.int .i64 (a / 2 ^ by_)))
          rw [ints_set, hres.out, set_td S _ i (by rw [HL.out]; exact HSL.out) (by rw [HL.out]; exact hlt2)] at Y5
          rw [hres.out] at W5
          have Y6 := Ho.mk Y5
          have W6 := Ho.mk W5
          clear Y5 W5 hbn hnx
          go_wp2
          go_roundw
          case rel => exact ⟨i + 1, by omega, by simp, ⟨by rw [hres.out]; exact Y6.out⟩, ⟨by rw [hres.out]; exact W6.out⟩⟩
          case measure => simp [intOf]; omega
      · obtain rfl : i = n := by omega
        have hfin : S.take i ++ (l.drop sk).drop i = S := by
          rw [List.drop_eq_nil_of_le (by rw [HL.out]; exact Nat.le_refl _), List.append_nil, List.take_of_length_le (by rw [HSL.out]; exact Nat.le_refl _)]
        have hv := HV'.out
        rw [hfin] at hv
        have HVF := Ho.mk hv
        have R : Rd wr (some ⟨g, 0, none⟩) S := ⟨by have := HSL.out; omega, fun j hj => ⟨_, rfl, by
          rw [show (⟨g, 0, none⟩ : Addr).add j = ⟨g, j, none⟩ from by unfold Addr.add; split <;> simp_all]
          exact HVF.out.cell (ints_at S hj)⟩⟩
        have HE : Ho (trimL S = digs (x / 2 ^ kn)) := ⟨by rw [HSS.out, HP.out, HQ.out]; exact HF.out⟩
        clear hfin hv HV'
        go_wp2_with (go_at_call 91; rw [← HSL.out]; (with_reducible refine (trim_calls _ _ _ _ R (by rw [HSL.out]; exact hcap)).mono ?_); rintro e w' ⟨rfl, rfl⟩)
        go_ret
        rw [← HE.out]
        exact ⟨_, _, rfl, by have := trimN_le S S.length; have := HSL.out; simp [trimL]; omega, R.take _, ⟨HW.out⟩⟩
  · have e : Ho (digs (x / 2 ^ kn) = []) := ⟨by rw [← HF.out, List.drop_eq_nil_of_le (by omega)]; rfl⟩
    rw [e.out]
    have hge' : decide ((l.length : Int) ≤ sk) = true := decide_eq_true (by omega)
    have hm := h0.max
    go_enter Tryd.func66, Tryd.ntmps66
    go_wp2
    go_ret
    exact ⟨none, 0, rfl, Nat.le_refl _, Rd.nil _ _, Bel.refl _⟩
end Go.Proofs.YtnmjnjhijcnbcaaDoor.Na
