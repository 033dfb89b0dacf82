/-
  The walks of package nat: the root.
-/
import Derived.Test.YtpgdiebmdcbgfaaNb
import Derived.Test.YtpgdiebmdcbgfaaN6
import Derived.Deep.DeepCutAuto
set_option linter.unusedVariables false
namespace Go.Proofs.Ytpgdiebmdcbgfaa.Nc
open Go.RowKit Go.Proofs.Ytpgdiebmdcbgfaa Go.Proofs.Ytpgdiebmdcbgfaa.Ow Go.Proofs.Ytpgdiebmdcbgfaa.Pl Go.Proofs.Ytpgdiebmdcbgfaa.N1 Go.Proofs.Ytpgdiebmdcbgfaa.N2 Go.Proofs.Ytpgdiebmdcbgfaa.N3 Go.Proofs.Ytpgdiebmdcbgfaa.Na Go.Proofs.Ytpgdiebmdcbgfaa.Nb

/-- Three rows of noughts, made in whatever order. -/
structure Three (B m : Nat) (v4 v5 v6 : Value) (w wx : World) (b4 b5 b6 : Nat) : Prop where
  e4 : v4 = .slice (some ⟨b4, 0, none⟩) m m
  e5 : v5 = .slice (some ⟨b5, 0, none⟩) m m
  e6 : v6 = .slice (some ⟨b6, 0, none⟩) m m
  k4 : Blk wx b4 3 (ints (List.replicate m 0))
  k5 : Blk wx b5 3 (ints (List.replicate m 0))
  k6 : Blk wx b6 3 (ints (List.replicate m 0))
  ne : b4 ≠ b5 ∧ b4 ≠ b6 ∧ b5 ≠ b6 ∧ B ≤ b4 ∧ B ≤ b5 ∧ B ≤ b6
  bel : Bel w wx
theorem three_world (w : World) (m : Nat) (o : Obj) (ho : o = .cells (madeCells #[.int .i64 0] m) 3) : Blk (((w.alloc o).alloc o).alloc o).drew w.heap.size 3 (ints (List.replicate m 0)) ∧ Blk (((w.alloc o).alloc o).alloc o).drew (w.heap.size + 1) 3 (ints (List.replicate m 0)) ∧ Blk (((w.alloc o).alloc o).alloc o).drew (w.heap.size + 2) 3 (ints (List.replicate m 0)) := by
  have e : o = .cells (ints (List.replicate m 0)).toArray 3 := by
    rw [ho, ← ints_rep, ← toList_madeCells_one]
  rw [e]
  refine ⟨(((Blk.new w _ _).old _).old _).drew, ?_, ?_⟩
  · have := ((Blk.new (w.alloc (.cells (ints (List.replicate m 0)).toArray 3)) (ints (List.replicate m 0)) 3).old (.cells (ints (List.replicate m 0)).toArray 3)).drew
    simpa using this
  · have := (Blk.new ((w.alloc (.cells (ints (List.replicate m 0)).toArray 3)).alloc (.cells (ints (List.replicate m 0)).toArray 3)) (ints (List.replicate m 0)) 3).drew
    simpa using this

set_option maxHeartbeats 2000000 in
theorem root_calls (A : Option Addr) (c x : Nat) (w : World) (h : Rd w A (digs x)) (hc : (digs x).length ≤ c) (hx : (digs x).length ≤ 50000) :
    Calls Try.prog 32 #[.slice A (digs x).length c] w
      fun e w' => ∃ A c, e = .returned (.slice A (digs (rootN x)).length c) ∧ (digs (rootN x)).length ≤ c ∧ Rd w' A (digs (rootN x)) ∧ Bel w w' := by
  obtain ⟨m, hm⟩ : ∃ m, m = (digs x).length / 2 + 2 := ⟨_, rfl⟩
  have hmi : ((digs x).length : Int) / 2 + 2 = (m : Int) := by omega
  have hmk := fun W => run_make_row' (P := Try.prog) 22 3 (.int .i64 0) 8 Try.underlying22 info3 rfl .i64 .i64 m (by omega) (by omega) W
  have HM := Ho.mk hm
  clear hm
  go_enter Try.func32, Try.ntmps32
  go_upto_region 2 with fail
  go_cut [4, 5, 6] (fun v4 v5 v6 wx => ∃ b4 b5 b6, Three w.heap.size m v4 v5 v6 w wx b4 b5 b6)
  case first =>
    have T := Ho.mk (three_world w m _ rfl)
    go_region
    all_goals
      go_wp2_with fail
      go_meet
      exact ⟨_, _, _, rfl, rfl, rfl, by first | exact T.out.1 | exact T.out.2.1 | exact T.out.2.2, by first | exact T.out.1 | exact T.out.2.1 | exact T.out.2.2, by first | exact T.out.1 | exact T.out.2.1 | exact T.out.2.2, by omega, ((((Bel.refl w).alloc _).alloc _).alloc _).drew⟩
  case rest =>
    obtain ⟨b4, b5, b6, hT⟩ := hcut
    obtain ⟨rfl, rfl, rfl, k4, k5, k6, ⟨n45, n46, n56, B4, B5, B6⟩, hb⟩ := hT
    have K4 := Ho.mk k4
    have K5 := Ho.mk k5
    have K6 := Ho.mk k6
    have HB := Ho.mk hb
    have hbl := blen_le.2 (Nat.lt_of_lt_of_le (digs_lt x) (by rw [show (16777216 : Nat) = 2 ^ 24 from rfl, ← Nat.pow_mul]; exact Nat.le_refl _))
    have hW := hb.size
    clear k4 k5 k6 hb hmk
    go_wp2_with fail
    (with_reducible refine (N6.natLen_calls _ _ x _ (h.bel HB.out)).mono ?_); rintro e w1 ⟨rfl, rfl⟩
    have HX := Ho.mk (digs_lt x)
    have H := Ho.mk h
    have hxl := Ho.mk (show (digs x).length ≤ 2 * (m - 1) by rw [HM.out]; omega)
    have hm2 : 2 ≤ m := by rw [HM.out]; omega
    have hm5 : m ≤ 30000 := by rw [HM.out]; omega
    have hbl2 : blen x ≤ 1200000 := by omega
    clear h
    go_wp2_with fail
    go_loopw [7] (fun v7 wr => ∃ (u R D : Nat) (ll rl tl : List Int), u ≤ (blen x + 1) / 2 ∧ v7 = .int .i64 (2 * (u : Int) - 2) ∧ Ho (RootAt x m u R D) ∧ Ho (Blk wr b4 3 (ints ll)) ∧ Ho (Blk wr b5 3 (ints rl)) ∧ Ho (Blk wr b6 3 (ints tl)) ∧
        Ho (ll.length = m ∧ rl.length = m ∧ tl.length = m) ∧ Ho (Lims ll) ∧ Ho (Lims rl) ∧ Ho (val ll = D) ∧ Ho (val rl = R) ∧ Ho (Bel w wr)) (fun v7 _ => (intOf v7 + 2).toNat)
    case atStart =>
      exact ⟨(blen x + 1) / 2, 0, 0, _, _, _, Nat.le_refl _, by congr 1; omega, ⟨root_zero⟩, K4, K5, K6, ⟨by simp⟩, ⟨lims_rep _⟩, ⟨lims_rep _⟩, ⟨by rw [val_rep]; rfl⟩, ⟨by rw [val_rep]; rfl⟩, HB⟩
    case round =>
      obtain ⟨u, R, D, ll, rl, tl, hu, rfl, HR, KL, KR, KT, HLEN, HLL, HLR, HVL, HVR, HW⟩ := hrel
      rcases Nat.eq_zero_or_pos u with hz | hz
      · subst hz
        have e := Ho.mk (root_end HR.out)
        have R' := KR.out.rd (by have := HLEN.out.2.1; omega)
        have HE : Ho (trimL rl = digs (rootN x)) := ⟨trim_digs HLR.out (by rw [e.out]; exact HVR.out)⟩
        go_wp2_with (go_at_call 43; rw [← HLEN.out.2.1]; (with_reducible refine (trim_calls _ _ _ _ R' (Nat.le_refl _)).mono ?_); rintro e w' ⟨rfl, rfl⟩)
        go_ret
        rw [← HE.out]
        exact ⟨_, _, rfl, by have := trimN_le rl rl.length; simp [trimL]; omega, R'.take _, HW.out⟩
      · obtain ⟨u', rfl⟩ : ∃ u', u = u' + 1 := ⟨u - 1, by omega⟩
        obtain ⟨t, ht⟩ : ∃ t : Nat, t = 2 * u' := ⟨_, rfl⟩
        rw [show 2 * ((u' + 1 : Nat) : Int) - 2 = (t : Int) from by omega]
        obtain ⟨q, hq⟩ : ∃ q, q = t / 24 := ⟨_, rfl⟩
        obtain ⟨s, hs⟩ : ∃ s, s = t % 24 := ⟨_, rfl⟩
        have hq2 : (t : Int) / 24 = q := by omega
        have hs2 : (t : Int) % 24 = s := by omega
        obtain ⟨b, hb⟩ : ∃ b, b = x / 4 ^ u' % 4 := ⟨_, rfl⟩
        have hbits := Ho.mk (root_bits x u' q s (by rw [hq, ht]) (by rw [hs, ht]))
        have hb4 : b < 4 := by rw [hb]; omega
        have ht5 : t ≤ 1200002 := by omega
        rw [← hb] at hbits
        have HBB := Ho.mk hb
        have HT := Ho.mk ht
        have hql : q < (digs x).length := by omega
        obtain ⟨ad, rfl, x0⟩ := (H.out.bel HW.out).cell q hql
        have hqi : (q : Int) < (digs x).length := by omega
        have hs24 : s < 24 := by omega
        obtain ⟨g0, g1⟩ := (digs_can x).1.nth q
        clear hq hs hb ht hql
        go_wp2_with fail
        rw [hbits.out]
        clear hbits x0 hqi hs24 g0 g1 hq2 hs2
        obtain ⟨B1, B2, B3⟩ := root_bound HR.out hm2
        (with_reducible refine (up_calls b4 m 2 ll 2 _ _ KL.out HLEN.out.1 (by omega) HLL.out rfl (by decide) (by omega) (by omega)).mono ?_); rintro e w1 ⟨rfl, hk1, hg1⟩
        have hv1 := up_val (by_ := 2) (inn := (b : Int)) HLEN.out.1 HLL.out (by omega) (by rw [HVL.out]; have := nat_lt_int B1; omega)
        have hl1 := limbs_len m (b : Int) (fun j => nth ll j * ((2 ^ 2 : Nat) : Int))
        have hL1 := limbs_lims m (b : Int) (fun j => nth ll j * ((2 ^ 2 : Nat) : Int))
        rw [HVL.out] at hv1
        generalize limbs m (b : Int) (fun j => nth ll j * ((2 ^ 2 : Nat) : Int)) = l1 at *
        have KL1 := Ho.mk hk1
        have HV1 : Ho (val l1 = ((4 * D + b : Nat) : Int)) := ⟨by rw [hv1]; simp; omega⟩
        have HL1 := Ho.mk (And.intro hl1 hL1)
        have KR1 := Ho.mk (hg1.blk KR.out (fun e => n45 e.symm))
        have KT1 := Ho.mk (hg1.blk KT.out (fun e => n46 e.symm))
        have HW1 := Ho.mk (hg1.bel HW.out B4)
        clear hk1 hv1 hl1 hL1 hg1 KL KR KT HW HLL HVL
        go_wp2_with ((with_reducible refine wpList_cp _ rfl (.tmp 40) (.tmp 41) 22 rfl 3 Try.underlying22 size3 b6 0 (some ⟨b5, 0, none⟩) m m m m rl HLEN.out.2.1 rfl rfl (ints tl) KT1.out (KR1.out.rd (by rw [HLEN.out.2.1]; omega)) (Nat.le_refl _) (by rw [ints_len, HLEN.out.2.2, Nat.zero_add]; exact Nat.le_refl _) ?_); intro w2 hk2 hb2')
        have e2 : (ints tl).take 0 ++ (ints rl ++ (ints tl).drop (0 + m)) = ints rl := by
          rw [List.take_zero, List.nil_append, List.drop_eq_nil_of_le (by rw [ints_len, HLEN.out.2.2, Nat.zero_add]; exact Nat.le_refl _), List.append_nil]
        rw [e2] at hk2
        have KL2 := Ho.mk (hb2'.blk KL1.out n46)
        have KR2 := Ho.mk (hb2'.blk KR1.out n56)
        have HW2 := Ho.mk (hb2'.bel HW1.out B6)
        clear e2 hb2' KL1 KR1 KT1 HW1
        (with_reducible refine (up_calls b6 m 2 rl 2 _ _ hk2 HLEN.out.2.1 (by omega) HLR.out rfl (by decide) (by decide) (by decide)).mono ?_); rintro e w3 ⟨rfl, hk3, hg3⟩
        have hv3 := up_val (by_ := 2) (inn := 1) HLEN.out.2.1 HLR.out (by decide) (by rw [HVR.out]; have := nat_lt_int B2; omega)
        have hl3 := limbs_len m 1 (fun j => nth rl j * ((2 ^ 2 : Nat) : Int))
        have hL3 := limbs_lims m 1 (fun j => nth rl j * ((2 ^ 2 : Nat) : Int))
        rw [HVR.out] at hv3
        generalize limbs m 1 (fun j => nth rl j * ((2 ^ 2 : Nat) : Int)) = l3 at *
        have KT3 := Ho.mk hk3
        have HV3 : Ho (val l3 = ((4 * R + 1 : Nat) : Int)) := ⟨by rw [hv3]; simp; omega⟩
        have HL3 := Ho.mk (And.intro hl3 hL3)
        have KL3 := Ho.mk (hg3.blk KL2.out n46)
        have KR3 := Ho.mk (hg3.blk KR2.out n56)
        have HW3 := Ho.mk (hg3.bel HW2.out B6)
        clear hk2 hk3 hv3 hl3 hL3 hg3 KL2 KR2 HW2
        have hcmp := cmpTop_all HL1.out.2 HL3.out.2 HL1.out.1 HL3.out.1
        rw [HV1.out, HV3.out] at hcmp
        have HC := Ho.mk hcmp
        clear hcmp
        go_wp2_with fail
        rcases Nat.lt_or_ge (4 * D + b) (4 * R + 1) with hno | hyes
        · (with_reducible refine (takeNo_calls b4 b6 m l1 l3 _ KL3.out KT3.out HL1.out.1 HL3.out.1 (by omega) (by omega) (by rw [HC.out, cmpI_lt (by omega)]; decide)).mono ?_); rintro e w4 ⟨rfl, hb4'⟩
          have KL4 := Ho.mk (KL3.out.bel hb4')
          have KR4 := Ho.mk (KR3.out.bel hb4')
          have KT4 := Ho.mk (KT3.out.bel hb4')
          have HW4 := Ho.mk (HW3.out.trans hb4')
          clear hb4' KL3 KR3 KT3 HW3
          go_wp2_with fail
          (with_reducible refine (up_calls b5 m 1 rl 1 _ _ KR4.out HLEN.out.2.1 (by omega) HLR.out rfl (by decide) (by decide) (by decide)).mono ?_); rintro e w5 ⟨rfl, hk5, hg5⟩
          have hv5 := up_val (by_ := 1) (inn := 0) HLEN.out.2.1 HLR.out (by decide) (by rw [HVR.out]; have := nat_lt_int B3; omega)
          have hl5 := limbs_len m 0 (fun j => nth rl j * ((2 ^ 1 : Nat) : Int))
          have hL5 := limbs_lims m 0 (fun j => nth rl j * ((2 ^ 1 : Nat) : Int))
          rw [HVR.out] at hv5
          generalize limbs m 0 (fun j => nth rl j * ((2 ^ 1 : Nat) : Int)) = l5 at *
          have HN := Ho.mk (root_no HR.out HBB.out HX.out hxl.out hno)
          have HV5 : Ho (val l5 = ((2 * R : Nat) : Int)) := ⟨by rw [hv5]; simp; omega⟩
          have HX5 := Ho.mk (And.intro hk5 (And.intro hl5 (And.intro hL5 hg5)))
          clear hk5 hv5 hl5 hL5 hg5
          go_wp2
          go_roundw
          case rel =>
            obtain ⟨hk5, hl5, hL5, hg5⟩ := HX5.out
            exact ⟨u', _, _, l1, l5, l3, by omega, by congr 1; have := HT.out; omega, HN, ⟨hg5.blk KL4.out n45⟩, ⟨hk5⟩, ⟨hg5.blk KT4.out (fun e => n56 e.symm)⟩, ⟨HL1.out.1, hl5, HL3.out.1⟩, ⟨HL1.out.2⟩, ⟨hL5⟩, HV1, HV5, ⟨hg5.bel HW4.out B5⟩⟩
          case measure => simp [intOf]; omega
        · (with_reducible refine (takeYes_calls b4 b6 m l1 l3 _ KL3.out KT3.out HL1.out.1 HL3.out.1 (by omega) (by omega) (by
            rw [HC.out]
            rcases Nat.lt_or_eq_of_le hyes with h | h
            · rw [cmpI_gt (by omega)]; decide
            · rw [cmpI_eq (by omega)]; decide) n46 HL1.out.2 HL3.out.2).mono ?_); rintro e w4 ⟨rfl, hk4, hg4⟩
          have hv4 := sub_val HL1.out.1 HL3.out.1 HL1.out.2 HL3.out.2 (by rw [HV1.out, HV3.out]; omega)
          have hl4 := limbs_len m 0 (fun j => nth l1 j - nth l3 j)
          have hL4 := limbs_lims m 0 (fun j => nth l1 j - nth l3 j)
          rw [HV1.out, HV3.out] at hv4
          generalize limbs m 0 (fun j => nth l1 j - nth l3 j) = l4 at *
          have KL4 := Ho.mk hk4
          have HV4 : Ho (val l4 = ((4 * D + b - (4 * R + 1) : Nat) : Int)) := ⟨by rw [hv4]; omega⟩
          have HL4 := Ho.mk (And.intro hl4 hL4)
          have KR4 := Ho.mk (hg4.blk KR3.out (fun e => n45 e.symm))
          have KT4 := Ho.mk (hg4.blk KT3.out (fun e => n46 e.symm))
          have HW4 := Ho.mk (hg4.bel HW3.out B4)
          clear hk4 hv4 hl4 hL4 hg4 KL3 KR3 KT3 HW3
          go_wp2_with fail
          (with_reducible refine (up_calls b5 m 1 rl 1 _ _ KR4.out HLEN.out.2.1 (by omega) HLR.out rfl (by decide) (by decide) (by decide)).mono ?_); rintro e w5 ⟨rfl, hk5, hg5⟩
          have hv5 := up_val (by_ := 1) (inn := 1) HLEN.out.2.1 HLR.out (by decide) (by rw [HVR.out]; have := nat_lt_int B3; omega)
          have hl5 := limbs_len m 1 (fun j => nth rl j * ((2 ^ 1 : Nat) : Int))
          have hL5 := limbs_lims m 1 (fun j => nth rl j * ((2 ^ 1 : Nat) : Int))
          rw [HVR.out] at hv5
          generalize limbs m 1 (fun j => nth rl j * ((2 ^ 1 : Nat) : Int)) = l5 at *
          have HN := Ho.mk (root_yes HR.out HBB.out HX.out hxl.out hyes)
          have HV5 : Ho (val l5 = ((2 * R + 1 : Nat) : Int)) := ⟨by rw [hv5]; simp; omega⟩
          have HX5 := Ho.mk (And.intro hk5 (And.intro hl5 (And.intro hL5 hg5)))
          clear hk5 hv5 hl5 hL5 hg5
          go_wp2
          go_roundw
          case rel =>
            obtain ⟨hk5, hl5, hL5, hg5⟩ := HX5.out
            exact ⟨u', _, _, l4, l5, l3, by omega, by congr 1; have := HT.out; omega, HN, ⟨hg5.blk KL4.out n45⟩, ⟨hk5⟩, ⟨hg5.blk KT4.out (fun e => n56 e.symm)⟩, ⟨HL4.out.1, hl5, HL3.out.1⟩, ⟨HL4.out.2⟩, ⟨hL5⟩, HV4, HV5, ⟨hg5.bel HW4.out B5⟩⟩
          case measure => simp [intOf]; omega
end Go.Proofs.Ytpgdiebmdcbgfaa.Nc
