/-
  Joined, of what this claim leans on: C9, S1, S2, S3, S4, S5, S6, P0, P1, P2, M0, M1, M2, W1, W2, M3, W4, W5, Yh, P3, P4, P5, P6, P7.
-/
import Derived.WalkMore
import Derived.ChangeKeysEq
import Derived.Maps.OwnSet
import Derived.Maps.OwnOps
import Derived.DeepKeys4
import Derived.Deep.Cut
import Derived.OwnWalk
import Derived.Test.YtalbgklfhabnkaaGreatDoorJIrfftScale4
set_option linter.unusedVariables false
set_option linter.unusedSimpArgs false
set_option maxRecDepth 100000
set_option maxHeartbeats 16000000
namespace Go.Proofs.YtalbgklfhabnkaaGreatDoor
namespace C9
open Go Go.RowKit Go.Proofs Go.Proofs.YtalbgklfhabnkaaGreatDoor Ow Pl Dp Dt D3 F1 T0 I0 V1 T1 U0 U1
open C0 C6
attribute [local go_sem ↓] Go.wp_at_zero Go.wp_at_succ
theorem run_fieldQ (a b : Int) (w : World) : (Instr.field 95 (.agg #[.int .i64 a, .int .i64 b]) 1).run Tryz.prog w = .ok (.int .i64 b) w := by
 have hu : Tryz.prog.underlying 95 = some (.struct (Tryz.prog.fieldsOf 95)) := by kernel_rfl
 have hf : ((Tryz.prog.fieldsOf 95)[1]?).map (fun f => (f.type, f.offset)) = some (3, 1) := by kernel_rfl
 have hp : Tryz.prog.plainKey 3 = true := by kernel_rfl
 obtain ⟨f, hf1, hf2⟩ := Option.map_eq_some_iff.1 hf
 simp only [Prod.mk.injEq] at hf2
 have hpt : (part 3 #[Value.int .i64 a, .int .i64 b] 1).run Tryz.prog w = .ok (.int .i64 b) w := run_part_plain w hp rfl
 simp [Instr.field, run_underlying hu, hf1, hf2.1, hf2.2, asAgg, Sem.run_bind, hpt, Result.andThen]
theorem dCos1 (p : Pt) (w : World) (A B C D : Option Addr) (a b c d : Nat) (h1 : Dv w A a p.1.1 400 3) (h2 : Dv w B b p.1.2 400 3) (h3 : Dv w C c p.2.1 400 3) (h4 : Dv w D d p.2.2 400 3) :
  Calls Tryz.prog 151 #[.agg #[.bool (dneg p.1.1), .slice A (digs (dm p.1.1)).length a, .int .i64 (de p.1.1), .bool (dneg p.1.2), .slice B (digs (dm p.1.2)).length b, .int .i64 (de p.1.2), .bool (dneg p.2.1), .slice C (digs (dm p.2.1)).length c, .int .i64 (de p.2.1), .bool (dneg p.2.2), .slice D (digs (dm p.2.2)).length d, .int .i64 (de p.2.2)]] w (MakesI w p.1 400 3) := by
 have D1 := Ho.mk h1
 have D2 := Ho.mk h2
 clear h1 h2 h3 h4
 go_enter Tryz.func151, Tryz.ntmps151
 go_wp2
 exact bodyPost_ret (v := .agg #[.bool (dneg p.1.1), .slice A (digs (dm p.1.1)).length a, .int .i64 (de p.1.1), .bool (dneg p.1.2), .slice B (digs (dm p.1.2)).length b, .int .i64 (de p.1.2)]) (by simp [results, Tryz.f151, go_sem]) rfl ⟨_, _, _, _, rfl, D1.out.bel (((Bel.refl w).alloc _).alloc _), D2.out.bel (((Bel.refl w).alloc _).alloc _), ((Bel.refl w).alloc _).alloc _⟩
theorem dSin1 (p : Pt) (w : World) (A B C D : Option Addr) (a b c d : Nat) (h1 : Dv w A a p.1.1 400 3) (h2 : Dv w B b p.1.2 400 3) (h3 : Dv w C c p.2.1 400 3) (h4 : Dv w D d p.2.2 400 3) :
  Calls Tryz.prog 152 #[.agg #[.bool (dneg p.1.1), .slice A (digs (dm p.1.1)).length a, .int .i64 (de p.1.1), .bool (dneg p.1.2), .slice B (digs (dm p.1.2)).length b, .int .i64 (de p.1.2), .bool (dneg p.2.1), .slice C (digs (dm p.2.1)).length c, .int .i64 (de p.2.1), .bool (dneg p.2.2), .slice D (digs (dm p.2.2)).length d, .int .i64 (de p.2.2)]] w (MakesI w p.2 400 3) := by
 have D1 := Ho.mk h3
 have D2 := Ho.mk h4
 clear h1 h2 h3 h4
 go_enter Tryz.func152, Tryz.ntmps152
 go_wp2
 exact bodyPost_ret (v := .agg #[.bool (dneg p.2.1), .slice C (digs (dm p.2.1)).length c, .int .i64 (de p.2.1), .bool (dneg p.2.2), .slice D (digs (dm p.2.2)).length d, .int .i64 (de p.2.2)]) (by simp [results, Tryz.f152, go_sem]) rfl ⟨_, _, _, _, rfl, D1.out.bel (((Bel.refl w).alloc _).alloc _), D2.out.bel (((Bel.refl w).alloc _).alloc _), ((Bel.refl w).alloc _).alloc _⟩
theorem mulD_zero (v : Int) : mulD 0 v = 0 := by unfold mulD; simp
theorem imul_zero (h : Iv) : imul (0, 0) h = (0, 0) := by
 unfold imul
 simp only [mulD_zero]
 rfl
theorem eighth_alike (w : Nat) : (restP 1 3 w 1).2 = (restP 1 3 w 1).1 := by
 show (turned (one, (0, 0)) (halvesP w 0) w).2 = (turned (one, (0, 0)) (halvesP w 0) w).1
 unfold turned
 have e : (halvesP w 0).2 = (halvesP w 0).1 := rfl
 rw [e]
 simp only [imul_zero]
 congr 1
 unfold iadd iflip
 simp
theorem dOfRow {k Q cw sw w : Nat} {ki Qi wi : Int} (W : World) (T : Tab W) (hm : (k, cw, sw) ∈ T1.rowAt Q) (hQ : Q ≤ 9) (hk : (k : Int) = ki) (hQi : (Q : Int) = Qi) (hw : w = 150 + 2 * Q) (hwi : (w : Int) = wi) :
  Calls Tryz.prog 161 #[.agg #[.int .i64 ki, .int .i64 Qi], .int .i64 wi] W (MakesP W (restP k Q w (Q - 2)) 400 3) := by
 obtain ⟨h1, h2, h3, h4, h5⟩ := row_self hQ hm
 have EN := rest_ok (rowAt_ok Q hm)
 subst hw
 rcases h3 with h3 | ⟨h3, rfl, rfl⟩
 ·have := C7.of_0 (s := ((splitT k Q).1, (k, Q))) W T hk hQi hQ (by rw [← h2]) h3 hQ h4 h5 (by omega) hwi EN
  exact this
 ·have := C7.of_1 (s := ((splitT ((1 : Nat) : Int) 3).1, (1, 3))) W T hk hQi hQ (by rw [← h2]) h3 hQ h4 h5 (by omega) hwi EN
  have e := eighth_alike (150 + 2 * 3)
  dsimp only at this
  have e2 : (((restP 1 3 (150 + 2 * 3) (3 - 2)).2, (restP 1 3 (150 + 2 * 3) (3 - 2)).1) : Pt) = restP 1 3 (150 + 2 * 3) (3 - 2) := by
   rw [show 3 - 2 = 1 from rfl, e]
   exact Prod.ext rfl e.symm
  rw [e2] at this
  exact this
theorem dFound {k Q cw sw f : Nat} {ki Qi : Int} {x : Iv} (W0 : World) (T : Tab W0) (hm : (k, cw, sw) ∈ T1.rowAt Q) (hQ : Q ≤ 9) (hk : (k : Int) = ki) (hQi : (Q : Int) = Qi)
  (hf : f = 151 ∧ x = (restP k Q (150 + 2 * Q) (Q - 2)).1 ∨ f = 152 ∧ x = (restP k Q (150 + 2 * Q) (Q - 2)).2) :
  Calls Tryz.prog 150 #[.agg #[.int .i64 ki, .int .i64 Qi], .int .i64 110, .func (.func f) #[] #[]] W0 (MakesI W0 (endsV x 110) 400 3) := by
 have FO := Ho.mk (fun w T => dForm (k := ki) w T hQi (by omega : Q ≤ 20))
 rw [← hk, (row_self hQ hm).1, hk] at FO
 unfold MakesT at FO
 have hwi : ((150 + 2 * Q : Nat) : Int) = 110 + 2 * Qi + 40 := by omega
 have OF := Ho.mk (fun W T => dOfRow W T hm hQ hk hQi rfl hwi)
 have E := rowAt_ok Q hm
 obtain ⟨p, hp⟩ : ∃ p, restP k Q (150 + 2 * Q) (Q - 2) = p := ⟨_, rfl⟩
 have kc := E.kc
 have ks := E.ks
 have oc1 := E.oc1
 have oc2 := E.oc2
 have os1 := E.os1
 have os2 := E.os2
 rw [hp] at OF kc ks oc1 oc2 os1 os2 hf
 have q0 : 0 ≤ Qi := by omega
 have q1 : Qi ≤ 9 := by omega
 have TT := Ho.mk T
 have e1 : ((k, Q) : Nat × Nat).1 = k := rfl
 have e2 : ((k, Q) : Nat × Nat).2 = Q := rfl
 rw [e1, e2, hk, hQi] at FO
 have EX : Ho (∀ w A c B d, Tab w → Dv w A c x.1 400 3 → Dv w B d x.2 400 3 → Calls Tryz.prog 160 #[.agg #[.bool (dneg x.1), .slice A (digs (dm x.1)).length c, .int .i64 (de x.1), .bool (dneg x.2), .slice B (digs (dm x.2)).length d, .int .i64 (de x.2)], .int .i64 110] w (MakesIB w (endsV x 110) true 400 3)) := by
  rcases hf with ⟨_, rfl⟩ | ⟨_, rfl⟩
  ·exact ⟨fun w A c B d T h1 h2 => C8.dEnds (n := 110) w T h1 h2 (by decide) rfl oc1 oc2 kc⟩
  ·exact ⟨fun w A c B d T h1 h2 => C8.dEnds (n := 110) w T h1 h2 (by decide) rfl os1 os2 ks⟩
 have AS : Ho (∀ w A B C D a b c d, Dv w A a p.1.1 400 3 → Dv w B b p.1.2 400 3 → Dv w C c p.2.1 400 3 → Dv w D d p.2.2 400 3 → Calls Tryz.prog f #[.agg #[.bool (dneg p.1.1), .slice A (digs (dm p.1.1)).length a, .int .i64 (de p.1.1), .bool (dneg p.1.2), .slice B (digs (dm p.1.2)).length b, .int .i64 (de p.1.2), .bool (dneg p.2.1), .slice C (digs (dm p.2.1)).length c, .int .i64 (de p.2.1), .bool (dneg p.2.2), .slice D (digs (dm p.2.2)).length d, .int .i64 (de p.2.2)]] w (MakesI w x 400 3)) := by
  rcases hf with ⟨rfl, rfl⟩ | ⟨rfl, rfl⟩
  ·exact ⟨fun w A B C D a b c d h1 h2 h3 h4 => dCos1 p w A B C D a b c d h1 h2 h3 h4⟩
  ·exact ⟨fun w A B C D a b c d h1 h2 h3 h4 => dSin1 p w A B C D a b c d h1 h2 h3 h4⟩
 generalize endsV x 110 = r at *
 have hfs : f = 151 ∨ f = 152 := hf.imp (·.1) (·.1)
 clear T hm hk hQi hf E hp kc ks oc1 oc2 os1 os2 hwi hQ e1 e2
 rcases hfs with rfl | rfl
 all_goals
  go_enter Tryz.func150, Tryz.ntmps150
  go_wp2_with fail
  have KT := Ho.mk ((Blk.new W0 [.int .i64 ki, .int .i64 Qi] 95).old (.cells #[.bool false, .slice none 0 0, .int .i64 0, .bool false, .slice none 0 0, .int .i64 0] 42))
  have KR := Ho.mk (Blk.new (W0.alloc (.cells #[.int .i64 ki, .int .i64 Qi] 95)) [.bool false, .slice none 0 0, .int .i64 0, .bool false, .slice none 0 0, .int .i64 0] 42)
  rw [World.size_alloc] at KR
  have g0 := Ho.mk (((Bel.refl W0).alloc (.cells #[.int .i64 ki, .int .i64 Qi] 95)).alloc (.cells #[.bool false, .slice none 0 0, .int .i64 0, .bool false, .slice none 0 0, .int .i64 0] 42))
  have hS : ((W0.alloc (.cells #[.int .i64 ki, .int .i64 Qi] 95)).alloc (.cells #[.bool false, .slice none 0 0, .int .i64 0, .bool false, .slice none 0 0, .int .i64 0] 42)).heap.size = W0.heap.size + 1 + 1 := by simp only [World.size_alloc]
  generalize ((W0.alloc (.cells #[.int .i64 ki, .int .i64 Qi] 95)).alloc (.cells #[.bool false, .slice none 0 0, .int .i64 0, .bool false, .slice none 0 0, .int .i64 0] 42)) = W at *
  obtain ⟨y0, y1⟩ := KT.out.c2
  go_step3
  go_wp2_with fail
  (with_reducible refine (FO.out _ (TT.out.bel g0.out)).mono ?_); rintro e w1 ⟨rfl, b1⟩
  have KT1 := Ho.mk (KT.out.bel b1)
  clear y0 y1
  obtain ⟨y0, y1⟩ := KT1.out.c2
  go_wp2_with fail
  simp only [run_fieldQ]
  go_wp2_with fail
  go_step3
  go_wp2_with fail
  (with_reducible refine (OF.out _ (TT.out.bel (g0.out.trans b1))).mono ?_); rintro e w2 ⟨A, a, B, b, C, c, D, d, rfl, n1, n2, n3, n4, b2⟩
  go_wp2_with fail
  (with_reducible refine (AS.out _ A B C D a b c d n1 n2 n3 n4).mono ?_); rintro e w3 ⟨A3, c3, B3, d3, rfl, n5, n6, b3⟩
  go_wp2_with fail
  (with_reducible refine (EX.out _ A3 c3 B3 d3 (TT.out.bel (((g0.out.trans b1).trans b2).trans b3)) n5 n6).mono ?_); rintro e w4 ⟨A4, c4, B4, d4, rfl, n7, n8, b4⟩
  have bb := ((b1.trans b2).trans b3).trans b4
  have KO := Ho.mk (Blk.new w4 [.bool (dneg r.1), .slice A4 (digs (dm r.1)).length c4, .int .i64 (de r.1), .bool (dneg r.2), .slice B4 (digs (dm r.2)).length d4, .int .i64 (de r.2)] 42)
  have KR2 := Ho.mk (KR.out.bel (bb.alloc (.cells #[.bool (dneg r.1), .slice A4 (digs (dm r.1)).length c4, .int .i64 (de r.1), .bool (dneg r.2), .slice B4 (digs (dm r.2)).length d4, .int .i64 (de r.2)] 42)))
  have M1 := Ho.mk (n7.bel ((Bel.refl w4).alloc (.cells #[.bool (dneg r.1), .slice A4 (digs (dm r.1)).length c4, .int .i64 (de r.1), .bool (dneg r.2), .slice B4 (digs (dm r.2)).length d4, .int .i64 (de r.2)] 42)))
  have M2 := Ho.mk (n8.bel ((Bel.refl w4).alloc (.cells #[.bool (dneg r.1), .slice A4 (digs (dm r.1)).length c4, .int .i64 (de r.1), .bool (dneg r.2), .slice B4 (digs (dm r.2)).length d4, .int .i64 (de r.2)] 42)))
  have gg := Ho.mk (g0.out.trans (bb.alloc (.cells #[.bool (dneg r.1), .slice A4 (digs (dm r.1)).length c4, .int .i64 (de r.1), .bool (dneg r.2), .slice B4 (digs (dm r.2)).length d4, .int .i64 (de r.2)] 42)))
  clear y0 y1 n1 n2 n3 n4 n5 n6 n7 n8 b1 b2 b3 b4 bb
  obtain ⟨y0, y1, y2, y3, y4, y5⟩ := KO.out.c6
  obtain ⟨x0, x1, x2, x3, x4, x5⟩ := KR2.out.c6
  have z0 := KR2.out.free 0
  have z1 := KR2.out.free 1
  have z2 := KR2.out.free 2
  have z3 := KR2.out.free 3
  have z4 := KR2.out.free 4
  have z5 := KR2.out.free 5
  go_wp2
  rw [Exit.noGoto_ret]
  exact I0.gives_endI (fn := Tryz.f150) (i := r) rfl rfl gg.out (by omega) KR2.out M1.out M2.out
theorem dCos {k Q cw sw : Nat} {ki Qi : Int} (W0 : World) (T : Tab W0) (hm : (k, cw, sw) ∈ T1.rowAt Q) (hQ : Q ≤ 9) (hk : (k : Int) = ki) (hQi : (Q : Int) = Qi) :
  Calls Tryz.prog 139 #[.agg #[.int .i64 ki, .int .i64 Qi], .int .i64 110] W0 (MakesI W0 (endsV (restP k Q (150 + 2 * Q) (Q - 2)).1 110) 400 3) := by
 have FO := Ho.mk (fun W T => dFound W T hm hQ hk hQi (.inl ⟨rfl, rfl⟩))
 have TT := Ho.mk T
 clear T hm hk hQi hQ
 generalize endsV (restP k Q (150 + 2 * Q) (Q - 2)).1 110 = r at *
 go_enter Tryz.func139, Tryz.ntmps139
 go_wp2_with fail
 have KT := Ho.mk ((Blk.new W0 [.int .i64 ki, .int .i64 Qi] 95).old (.cells #[.bool false, .slice none 0 0, .int .i64 0, .bool false, .slice none 0 0, .int .i64 0] 42))
 have KR := Ho.mk (Blk.new (W0.alloc (.cells #[.int .i64 ki, .int .i64 Qi] 95)) [.bool false, .slice none 0 0, .int .i64 0, .bool false, .slice none 0 0, .int .i64 0] 42)
 rw [World.size_alloc] at KR
 have g0 := Ho.mk (((Bel.refl W0).alloc (.cells #[.int .i64 ki, .int .i64 Qi] 95)).alloc (.cells #[.bool false, .slice none 0 0, .int .i64 0, .bool false, .slice none 0 0, .int .i64 0] 42))
 have hS : ((W0.alloc (.cells #[.int .i64 ki, .int .i64 Qi] 95)).alloc (.cells #[.bool false, .slice none 0 0, .int .i64 0, .bool false, .slice none 0 0, .int .i64 0] 42)).heap.size = W0.heap.size + 1 + 1 := by simp only [World.size_alloc]
 generalize ((W0.alloc (.cells #[.int .i64 ki, .int .i64 Qi] 95)).alloc (.cells #[.bool false, .slice none 0 0, .int .i64 0, .bool false, .slice none 0 0, .int .i64 0] 42)) = W at *
 obtain ⟨y0, y1⟩ := KT.out.c2
 go_wp2_with fail
 (with_reducible refine (FO.out _ (TT.out.bel g0.out)).mono ?_); rintro e w1 ⟨A, a, B, b, rfl, n1, n2, b1⟩
 have KR2 := Ho.mk (KR.out.bel b1)
 have M1 := Ho.mk n1
 have M2 := Ho.mk n2
 have gg := Ho.mk (g0.out.trans b1)
 clear y0 y1 n1 n2 b1
 obtain ⟨x0, x1, x2, x3, x4, x5⟩ := KR2.out.c6
 have z0 := KR2.out.free 0
 have z1 := KR2.out.free 1
 have z2 := KR2.out.free 2
 have z3 := KR2.out.free 3
 have z4 := KR2.out.free 4
 have z5 := KR2.out.free 5
 go_wp2
 exact I0.gives_endI (fn := Tryz.f139) (i := r) rfl rfl gg.out (by omega) KR2.out M1.out M2.out
theorem dSin {k Q cw sw : Nat} {ki Qi : Int} (W0 : World) (T : Tab W0) (hm : (k, cw, sw) ∈ T1.rowAt Q) (hQ : Q ≤ 9) (hk : (k : Int) = ki) (hQi : (Q : Int) = Qi) :
  Calls Tryz.prog 140 #[.agg #[.int .i64 ki, .int .i64 Qi], .int .i64 110] W0 (MakesI W0 (endsV (restP k Q (150 + 2 * Q) (Q - 2)).2 110) 400 3) := by
 have FO := Ho.mk (fun W T => dFound W T hm hQ hk hQi (.inr ⟨rfl, rfl⟩))
 have TT := Ho.mk T
 clear T hm hk hQi hQ
 generalize endsV (restP k Q (150 + 2 * Q) (Q - 2)).2 110 = r at *
 go_enter Tryz.func140, Tryz.ntmps140
 go_wp2_with fail
 have KT := Ho.mk ((Blk.new W0 [.int .i64 ki, .int .i64 Qi] 95).old (.cells #[.bool false, .slice none 0 0, .int .i64 0, .bool false, .slice none 0 0, .int .i64 0] 42))
 have KR := Ho.mk (Blk.new (W0.alloc (.cells #[.int .i64 ki, .int .i64 Qi] 95)) [.bool false, .slice none 0 0, .int .i64 0, .bool false, .slice none 0 0, .int .i64 0] 42)
 rw [World.size_alloc] at KR
 have g0 := Ho.mk (((Bel.refl W0).alloc (.cells #[.int .i64 ki, .int .i64 Qi] 95)).alloc (.cells #[.bool false, .slice none 0 0, .int .i64 0, .bool false, .slice none 0 0, .int .i64 0] 42))
 have hS : ((W0.alloc (.cells #[.int .i64 ki, .int .i64 Qi] 95)).alloc (.cells #[.bool false, .slice none 0 0, .int .i64 0, .bool false, .slice none 0 0, .int .i64 0] 42)).heap.size = W0.heap.size + 1 + 1 := by simp only [World.size_alloc]
 generalize ((W0.alloc (.cells #[.int .i64 ki, .int .i64 Qi] 95)).alloc (.cells #[.bool false, .slice none 0 0, .int .i64 0, .bool false, .slice none 0 0, .int .i64 0] 42)) = W at *
 obtain ⟨y0, y1⟩ := KT.out.c2
 go_wp2_with fail
 (with_reducible refine (FO.out _ (TT.out.bel g0.out)).mono ?_); rintro e w1 ⟨A, a, B, b, rfl, n1, n2, b1⟩
 have KR2 := Ho.mk (KR.out.bel b1)
 have M1 := Ho.mk n1
 have M2 := Ho.mk n2
 have gg := Ho.mk (g0.out.trans b1)
 clear y0 y1 n1 n2 b1
 obtain ⟨x0, x1, x2, x3, x4, x5⟩ := KR2.out.c6
 have z0 := KR2.out.free 0
 have z1 := KR2.out.free 1
 have z2 := KR2.out.free 2
 have z3 := KR2.out.free 3
 have z4 := KR2.out.free 4
 have z5 := KR2.out.free 5
 go_wp2
 exact I0.gives_endI (fn := Tryz.f140) (i := r) rfl rfl gg.out (by omega) KR2.out M1.out M2.out
end C9
namespace S1
open Ieee Go Go.RowKit Go.Proofs Go.Proofs.YtalbgklfhabnkaaGreatDoor Ow Pl Dp Dt Gp Gq G3 G4 F1 T0 I0 T1 U0 W0
attribute [local go_sem ↓] Go.wp_at_zero Go.wp_at_succ
theorem dSure {ki Qi : Int} {f cw : Nat} {r : Iv} (W0 : World) (T : Tab W0) (hf : f = 139 ∨ f = 140) (hr1 : nw r.1 = cw) (hr2 : nw r.2 = cw)
  (FA : ∀ w, Tab w → Calls Tryz.prog f #[.agg #[.int .i64 ki, .int .i64 Qi], .int .i64 110] w (MakesI w r 400 3)) :
  Calls Tryz.prog 138 #[.agg #[.int .i64 ki, .int .i64 Qi], .func (.func f) #[] #[]] W0 (Tells W0 (.float .f64 cw)) := by
 have HA := Ho.mk FA
 have TT := Ho.mk T
 have hl : cw < 2 * sgnW := by rw [← hr1]; exact (nw_facts _).1
 have SA := Ho.mk (fun w => same_calls hl hl w)
 rw [alike_self hl] at SA
 have R1 := Ho.mk hr1
 have R2 := Ho.mk hr2
 clear T FA hl hr1 hr2
 rcases hf with rfl | rfl
 all_goals
  go_enter Tryz.func138, Tryz.ntmps138
  go_wp2_with fail
  have KT := Ho.mk (Blk.new W0 [.int .i64 ki, .int .i64 Qi] 95)
  have g0 := Ho.mk ((Bel.refl W0).alloc (.cells #[.int .i64 ki, .int .i64 Qi] 95))
  go_step3
  go_wp2_with fail
  go_step3
  go_wp2_with fail
  generalize W0.alloc (.cells #[.int .i64 ki, .int .i64 Qi] 95) = W1 at *
  go_loopw [6] (fun n wr => n = .int .i64 110 ∧ Ho (Blk wr W0.heap.size 95 [.int .i64 ki, .int .i64 Qi]) ∧ Ho (Bel W0 wr)) (fun _ _ => 0)
  case atStart => exact ⟨rfl, KT, g0⟩
  clear KT g0
  case round =>
  obtain ⟨rfl, KT, g1⟩ := hrel
  obtain ⟨y0, y1⟩ := KT.out.c2
  go_wp2_with fail
  (with_reducible refine (HA.out _ (TT.out.bel g1.out)).mono ?_); rintro e w5 ⟨A, a, B, b, rfl, n1, n2, b1⟩
  have KI := Ho.mk (Blk.new w5 [.bool (dneg r.1), .slice A (digs (dm r.1)).length a, .int .i64 (de r.1), .bool (dneg r.2), .slice B (digs (dm r.2)).length b, .int .i64 (de r.2)] 42)
  have N1 := Ho.mk (n1.bel ((Bel.refl w5).alloc (.cells #[.bool (dneg r.1), .slice A (digs (dm r.1)).length a, .int .i64 (de r.1), .bool (dneg r.2), .slice B (digs (dm r.2)).length b, .int .i64 (de r.2)] 42)))
  have N2 := Ho.mk (n2.bel ((Bel.refl w5).alloc (.cells #[.bool (dneg r.1), .slice A (digs (dm r.1)).length a, .int .i64 (de r.1), .bool (dneg r.2), .slice B (digs (dm r.2)).length b, .int .i64 (de r.2)] 42)))
  have gg := Ho.mk ((g1.out.trans b1).alloc (.cells #[.bool (dneg r.1), .slice A (digs (dm r.1)).length a, .int .i64 (de r.1), .bool (dneg r.2), .slice B (digs (dm r.2)).length b, .int .i64 (de r.2)] 42))
  clear y0 y1 n1 n2 b1
  go_wp2_with fail
  generalize w5.alloc (.cells #[.bool (dneg r.1), .slice A (digs (dm r.1)).length a, .int .i64 (de r.1), .bool (dneg r.2), .slice B (digs (dm r.2)).length b, .int .i64 (de r.2)] 42) = W7 at *
  obtain ⟨y0, y1, y2, y3, y4, y5⟩ := KI.out.c6
  refine wp_region_held_drew (S := fun w' => Bel W7 w') (by kernel_rfl) (Bel.refl _).drew (fun hHeld => ?_)
  (try dsimp only at hHeld)
  refine rt (i := 0) hHeld ?_
  refine rl (i := 1) (v := ?_) hHeld (fun w hSw => ?_) ?_
  rotate_left
  ·(have z0 := hSw.cell y0; have z1 := hSw.cell y1; have z2 := hSw.cell y2; go_simp; try (with_reducible rfl))
  refine rt (i := 3) hHeld ?_
  refine rl (i := 4) (v := ?_) hHeld (fun w hSw => ?_) ?_
  rotate_left
  ·(have z0 := hSw.cell y3; have z1 := hSw.cell y4; have z2 := hSw.cell y5; go_simp; try (with_reducible rfl))
  try simp only [Act.put, Ow.zS, Ow.zC, Ow.zD]
  refine rc (i := 2) (fun K hK => ?_)
  go_simp
  go_at_call 148
  refine (G7.near_calls (N1.out.bel hHeld) (by omega) (by omega)).mono ?_
  rintro e w8 ⟨rfl, b8⟩
  try go_wp2_with fail
  refine hK.out _ _ (Bel.trans hHeld b8) (fun hHeld => ?_)
  clear hK K
  try simp only [Act.put, Ow.zS, Ow.zC, Ow.zD]
  refine rc (i := 5) (fun K hK => ?_)
  go_simp
  go_at_call 148
  refine (G7.near_calls (N2.out.bel hHeld) (by omega) (by omega)).mono ?_
  rintro e w9 ⟨rfl, b9⟩
  try go_wp2_with fail
  refine hK.out _ _ (Bel.trans hHeld b9) (fun hHeld => ?_)
  clear hK K
  refine rt (i := 6) hHeld ?_
  refine rt (i := 7) hHeld ?_
  try simp only [Act.put, Ow.zS, Ow.zC, Ow.zD]
  refine wpAnyH_done (by kernel_rfl) ?_ _
  rw [R1.out, R2.out]
  have g9 := Ho.mk (gg.out.trans hHeld)
  go_wp2_with fail
  (with_reducible refine (SA.out _).mono ?_); rintro e w10 ⟨rfl, b10⟩
  go_wp2
  rw [Exit.noGoto_ret]
  go_ret
  exact ⟨rfl, g9.out.trans b10⟩
theorem dTCos {k Q cw sw : Nat} {ki Qi : Int} (W0 : World) (T : Tab W0) (hm : (k, cw, sw) ∈ T1.rowAt Q) (hQ : Q ≤ 9) (hk : (k : Int) = ki) (hQi : (Q : Int) = Qi) :
  Calls Tryz.prog 104 #[.agg #[.int .i64 ki, .int .i64 Qi]] W0 (Tells W0 (.float .f64 cw)) := by
 have E := rowAt_ok Q hm
 have SU := Ho.mk (fun W T => dSure W T (.inl rfl) E.cl E.ch (fun w T => C9.dCos w T hm hQ hk hQi))
 have TT := Ho.mk T
 clear T E hm hk hQi hQ
 go_enter Tryz.func104, Tryz.ntmps104
 go_wp2_with fail
 (with_reducible refine (SU.out _ (TT.out.bel ((Bel.refl W0).alloc _))).mono ?_); rintro e w1 ⟨rfl, b1⟩
 go_wp2
 go_ret
 exact ⟨rfl, ((Bel.refl W0).alloc _).trans b1⟩
theorem dTSin {k Q cw sw : Nat} {ki Qi : Int} (W0 : World) (T : Tab W0) (hm : (k, cw, sw) ∈ T1.rowAt Q) (hQ : Q ≤ 9) (hk : (k : Int) = ki) (hQi : (Q : Int) = Qi) :
  Calls Tryz.prog 105 #[.agg #[.int .i64 ki, .int .i64 Qi]] W0 (Tells W0 (.float .f64 sw)) := by
 have E := rowAt_ok Q hm
 have SU := Ho.mk (fun W T => dSure W T (.inr rfl) E.sl E.sh (fun w T => C9.dSin w T hm hQ hk hQi))
 have TT := Ho.mk T
 clear T E hm hk hQi hQ
 go_enter Tryz.func105, Tryz.ntmps105
 go_wp2_with fail
 (with_reducible refine (SU.out _ (TT.out.bel ((Bel.refl W0).alloc _))).mono ?_); rintro e w1 ⟨rfl, b1⟩
 go_wp2
 go_ret
 exact ⟨rfl, ((Bel.refl W0).alloc _).trans b1⟩
end S1
namespace S2
open Ieee Go Go.RowKit Go.Proofs Go.Maps Go.Proofs.YtalbgklfhabnkaaGreatDoor Ow Pl Gp T1 U0 W0
def pairD (a b : Nat) : DataW Unit := .agg [.lit (.float .f64 a), .lit (.float .f64 b)]
def RP : Value → Option (DataW Unit × List MemPlace)
 | .agg cs => match cs.toList with
  | [.float .f64 a, .float .f64 b] => some (pairD a b, [])
  | _ => none
 | _ => none
theorem rp_mk (a b : Nat) : RP (.agg #[.float .f64 a, .float .f64 b]) = some (pairD a b, []) := rfl
theorem rp_inv {v : Value} {D : DataW Unit} {ps : List MemPlace} (h : RP v = some (D, ps)) : ∃ a b, v = .agg #[.float .f64 a, .float .f64 b] ∧ D = pairD a b := by
 unfold RP at h
 split at h
 ·rename_i cs
  split at h
  ·rename_i a b he
   cases h
   refine ⟨a, b, ?_, rfl⟩
   congr 1
   rw [← Array.toList_inj]; exact he
  ·cases h
 ·cases h
theorem pairD_inj {a b c d : Nat} (h : pairD a b = pairD c d) : a = c ∧ b = d := by
 unfold pairD at h
 simp only [DataW.agg.injEq, List.cons.injEq, DataW.lit.injEq, Lit.float.injEq] at h
 exact ⟨h.1.2, h.2.1.2⟩
theorem und : Tryz.prog.underlying 95 = some (.struct (Tryz.prog.fieldsOf 95)) := by kernel_rfl
theorem wide : (match Tryz.prog.underlying 95 with | some (.array _ _) | some (.struct _) => true | _ => false) = true := by rw [und]
theorem laid : laidOutB Tryz.prog = true := by kernel_rfl
theorem row : (95 : TypeId) < Tryz.prog.types.size := of_decide_eq_true (by kernel_rfl)
theorem keyed : Keyed Tryz.prog 95 := Keyed.of_law (deep_law_laid laid (m := 2) (by omega) row (by kernel_rfl) wide)
theorem undM : Tryz.prog.underlying 89 = some (.map 95 92) := by kernel_rfl
theorem zero (w : World) : (zeroValue 92).run Tryz.prog w = .ok (.agg #[.float .f64 0, .float .f64 0]) w := by kernel_rfl
theorem keys_all : ∀ q : Fin 10, ∀ k : Fin 64, (keyOf Tryz.prog 95 (.agg #[.int .i64 (k.val : Int), .int .i64 (q.val : Int)])).isSome = true := by decide +kernel
noncomputable def klT (r : Nat × Nat) : Lit := (keyOf Tryz.prog 95 (.agg #[.int .i64 (r.1 : Int), .int .i64 (r.2 : Int)])).getD (.bool false)
theorem kl_key {r : Nat × Nat} (h1 : r.1 < 64) (h2 : r.2 ≤ 9) : keyOf Tryz.prog 95 (.agg #[.int .i64 (r.1 : Int), .int .i64 (r.2 : Int)]) = some (klT r) := by
 have := keys_all ⟨r.2, by omega⟩ ⟨r.1, h1⟩
 unfold klT
 cases hk : keyOf Tryz.prog 95 (.agg #[.int .i64 (r.1 : Int), .int .i64 (r.2 : Int)]) with
 | none => rw [hk] at this; cases this
 | some l => rfl
theorem kl_inj {r s : Nat × Nat} (h1 : r.1 < 64) (h2 : r.2 ≤ 9) (k1 : s.1 < 64) (k2 : s.2 ≤ 9) (e : klT r = klT s) : r = s := by
 have a := kl_key h1 h2
 have b := kl_key k1 k2
 rw [e] at a
 have := keyed.inj a b
 simp only [Value.agg.injEq, Array.mk.injEq, List.cons.injEq, Value.int.injEq, true_and, and_true] at this
 exact Prod.ext (by have := this.1; omega) (by have := this.2; omega)
structure Mp (w : World) (b n : Nat) : Prop where
 out : ∃ D : DataW Unit, w.ownsMap Tryz.prog 95 RP b n D ∧ IsMap D ∧ ∀ r : Nat × Nat, r.1 < 64 → r.2 ≤ 9 → Maps.has D (klT r) = true → ∀ z, D.atKey (klT r) z = pairD (lookT r).1 (lookT r).2
theorem Mp.bel {w w' : World} {b n : Nat} (h : Mp w b n) (g : Bel w w') : Mp w' b n := by
 obtain ⟨D, h1, h2, h3⟩ := h.out
 refine ⟨D, ?_, h2, h3⟩
 obtain ⟨es, clock, hb, F, hs, hD⟩ := h1
 exact ⟨es, clock, (g.out.block b (Array.getElem?_eq_some_iff.1 hb).1).trans hb, F, hs, hD⟩
theorem Mp.gr {w w' : World} {b b' n : Nat} (h : Mp w b n) (g : Gr b' w w') (ne : b ≠ b') : Mp w' b n := by
 obtain ⟨D, h1, h2, h3⟩ := h.out
 refine ⟨D, ?_, h2, h3⟩
 obtain ⟨es, clock, hb, F, hs, hD⟩ := h1
 exact ⟨es, clock, (g.block b (Array.getElem?_eq_some_iff.1 hb).1 ne).trans hb, F, hs, hD⟩
theorem Mp.lt {w : World} {b n : Nat} (h : Mp w b n) : b < w.heap.size := by
 obtain ⟨D, h1, _⟩ := h.out; exact h1.lt
theorem Mp.mono {w : World} {b n n' : Nat} (h : Mp w b n) (hn : n ≤ n') : Mp w b n' := by
 obtain ⟨D, h1, h2⟩ := h.out; exact ⟨D, h1.mono hn, h2⟩
theorem Mp.made (w : World) : Mp (w.alloc (.map #[] 0)) w.heap.size 0 :=
 ⟨.map [], World.ownsMap_made _ _ _ _, isMap_empty, fun r _ _ h => by simp [Maps.has_eq] at h⟩
theorem gr_of {w w' : World} {b : Nat} (h : w.grownBy w' (some b)) : Gr b w w' := ⟨h.os, h.tape, h.output, h.size, fun k hk ne => h.block k hk (fun e => ne (by cases e; rfl))⟩
theorem wpList_look {P : Program} (w : World) {ops : Array Oper} {rest : List Oper} {o : Oper} {a : Act} {Q : Exit → Act → World → Prop} (hP : P = Tryz.prog) (hg : o.guard = none) (m x : Operand) (hop : o.op = Op.lookup 89 m x true)
  {b n : Nat} (M : Mp w b n) (hm : a.eval m = .map (some b)) {r : Nat × Nat} (h1 : r.1 < 64) (h2 : r.2 ≤ 9) {k q : Int} (hk : (r.1 : Int) = k) (hq : (r.2 : Int) = q) (hx : a.eval x = .agg #[.int .i64 k, .int .i64 q])
  (hK : ∀ (h : Bool) (c s : Nat), (h = true → c = (lookT r).1 ∧ s = (lookT r).2) → wpList P ops Q rest (a.put o.dst (.tuple #[.agg #[.float .f64 c, .float .f64 s], .bool h])) w) :
  wpList P ops Q (o :: rest) a w := by
 subst hP; subst hk; subst hq
 obtain ⟨D, d1, d2, d3⟩ := M.out
 refine wpList_lookup_own_ok w hg m x _ hop _ _ keyed undM RP (zero w) (pairD 0 0) [] (rp_mk 0 0) b n D hm d1 _ _ hx (kl_key h1 h2) ?_
 intro v ps hv
 obtain ⟨c, s, rfl, hD⟩ := rp_inv hv
 refine hK _ c s (fun hh => ?_)
 rw [d3 r h1 h2 hh] at hD
 have := pairD_inj hD
 exact ⟨this.1.symm, this.2.symm⟩
theorem wpList_put {P : Program} (w : World) {ops : Array Oper} {rest : List Oper} {o : Oper} {a : Act} {Q : Exit → Act → World → Prop} (hP : P = Tryz.prog) (hg : o.guard = none) (m x v : Operand) (hop : o.op = Op.mapUpdate 89 m x v)
  {b n : Nat} (M : Mp w b n) (hn : n < 1000000) (hm : a.eval m = .map (some b)) {r : Nat × Nat} (h1 : r.1 < 64) (h2 : r.2 ≤ 9) {k q : Int} (hk : (r.1 : Int) = k) (hq : (r.2 : Int) = q) (hx : a.eval x = .agg #[.int .i64 k, .int .i64 q])
  (hv : a.eval v = .agg #[.float .f64 (lookT r).1, .float .f64 (lookT r).2])
  (hK : ∀ w', Mp w' b (n + 1) → Gr b w w' → wpList P ops Q rest (a.put o.dst undef) w') :
  wpList P ops Q (o :: rest) a w := by
 subst hP; subst hk; subst hq
 obtain ⟨D, d1, d2, d3⟩ := M.out
 refine wpList_mapUpdate_own w hg m x v _ hop _ _ keyed undM RP b n D hm d1 (by simp only [maxLen]; omega) _ _ _ hx hv (kl_key h1 h2) _ [] (rp_mk _ _) ?_
 intro w' o1 o2
 refine hK w' ⟨_, o1, d2.put _ _, fun s k1 k2 hh z => ?_⟩ (gr_of o2)
 by_cases e : klT s = klT r
 ·have := kl_inj k1 k2 h1 h2 e
  subst this
  exact atKey_put_same d2 (keyed.key (kl_key h1 h2)) _ z
 ·rw [atKey_put_other e]
  rw [has_put_other e] at hh
  exact d3 s k1 k2 hh z
end S2
namespace S3
open Ieee Go Go.RowKit Go.Proofs Go.Proofs.YtalbgklfhabnkaaGreatDoor Ow Pl Dp Dt Gp F1 I0 T1 U0 U1 W0 S1 S2
attribute [local go_sem ↓] Go.wp_at_zero Go.wp_at_succ
@[go_sem] theorem run_store_float {P : Program} {w : World} {a : Addr} {m : Mode} (k : FloatKind) (b : Nat) : (store a (.float k b) m).run P w = stored P w a (.float k b) m := run_store P w a _ m rfl
@[go_sem] theorem run_store_map {P : Program} {w : World} {a : Addr} {m : Mode} (b : Option Nat) : (store a (.map b) m).run P w = stored P w a (.map b) m := run_store P w a _ m rfl
@[go_sem] theorem run_negS (b : Nat) (w : World) : (Op.unary .neg (.float .f64 b)).run Tryz.prog w = .ok (.float .f64 (Op.negFloat .f64 b)) w := rfl
theorem Mp.far {w : World} {b n : Nat} (h : Mp w b n) {p : Addr} (hp : b ≠ p.block) (v : Value) : Mp (w.setCell p v) b n := by
 obtain ⟨D, h1, h2, h3⟩ := h.out
 refine ⟨D, ?_, h2, h3⟩
 obtain ⟨es, clock, hb, F, hs, hD⟩ := h1
 exact ⟨es, clock, (Below.heap_setCell _ _ _ _ (by first | exact hp | exact Ne.symm hp)).trans hb, F, hs, hD⟩
theorem tab_gr {u v : World} {b : Nat} (k : Tab u) (g : Gr b u v) (hb : ¬ 1 = b) : Tab v :=
 ⟨fun i hi => by have := k.cell i hi; unfold World.cell? at this ⊢; rw [g.block 1 (I4.Tab.lt k) hb]; exact this⟩
theorem res2f {fn : Func} {p : Tmp} {tmps : Array Value} {w : World} {b : Nat} {v0 v1 : Value} (hf : fn.results = #[.cell p 92]) (hp : tmps.getD p undef = .pointer (some ⟨b, 0, none⟩)) (h : Blk w b 92 [v0, v1]) :
  (results fn tmps).run Tryz.prog w = .ok (.agg #[v0, v1]) w := by
 obtain ⟨y0, y1⟩ := h.c2
 have hp2 := hp
 rw [Array.getD_eq_getD_getElem?] at hp2
 simp [results, hf, hp2, go_sem, y0, y1]
def rowsCn (Q : Nat) : Bool := (T1.rowAt Q).all fun x => (cn x.2.1 == x.2.1 && cn x.2.2 == x.2.2) && (decide (x.2.1 < 2 * sgnW) && decide (x.2.2 < 2 * sgnW))
theorem rows_cn : ∀ Q, Q ≤ 9 → rowsCn Q = true := by
 intro Q hq
 have : ∀ Q : Fin 10, rowsCn Q.val = true := by decide +kernel
 exact this ⟨Q, by omega⟩
theorem look_cn (r : Nat × Nat) (h : r.2 ≤ 9) : cn (lookT r).1 = (lookT r).1 ∧ cn (lookT r).2 = (lookT r).2 ∧ (lookT r).1 < 2 * sgnW ∧ (lookT r).2 < 2 * sgnW := by
 unfold lookT
 cases hf : (T1.rowAt r.2).find? (fun x => x.1 == r.1) with
 | none => decide
 | some x =>
  have := List.all_eq_true.1 (rows_cn r.2 h) _ (List.mem_of_find?_eq_some hf)
  simp only [Bool.and_eq_true, beq_iff_eq, decide_eq_true_eq] at this
  exact ⟨this.1.1, this.1.2, this.2.1, this.2.2⟩
def MakesC (W0 : World) (bm n : Nat) (p : Nat × Nat) (e : Ending) (w' : World) : Prop :=
 ∃ a b, e = .returned (.agg #[.float .f64 a, .float .f64 b]) ∧ a < 2 * sgnW ∧ b < 2 * sgnW ∧ cn a = p.1 ∧ cn b = p.2 ∧ Mp w' bm n ∧ Gr bm W0 w'
theorem dTOf {q n bm : Nat} {k ki qi : Int} {s : Nat × (Nat × Nat)} (W0 : World) (T : Tab W0) (M0 : Mp W0 bm n) (hb2 : ¬ 1 = bm) (hn : n < 1000000) (hk : k = ki) (hq : (q : Int) = qi) (hq9 : q ≤ 9) (hs : splitT k q = s) :
  Calls Tryz.prog 69 #[.agg #[.int .i64 ki, .int .i64 qi], .map (some bm)] W0 (MakesC W0 bm (n + 1) (turnT s.1 (lookT s.2))) := by
 subst hk
 have SP := Ho.mk (fun w T => dSplit (k := k) w T hq hq9)
 rw [hs] at SP
 obtain ⟨E, e7, r9, k64, _⟩ := split_entry k hq9
 rw [hs] at E e7 r9 k64
 have hm : (s.2.1, (lookT s.2).1, (lookT s.2).2) ∈ T1.rowAt s.2.2 := by
  have h := rests_ok q hq9
  have h0 := split_mem k hq9
  rw [hs] at h0; exact h0
 obtain ⟨ei, hei⟩ : ∃ ei : Int, (s.1 : Int) = ei := ⟨_, rfl⟩
 obtain ⟨rk, hrk⟩ : ∃ rk : Int, (s.2.1 : Int) = rk := ⟨_, rfl⟩
 obtain ⟨rq, hrq⟩ : ∃ rq : Int, (s.2.2 : Int) = rq := ⟨_, rfl⟩
 have TC := Ho.mk (fun W T => dTCos W T hm r9 hrk hrq)
 have TS := Ho.mk (fun W T => dTSin W T hm r9 hrk hrq)
 unfold MakesS at SP
 rw [hei, hrk, hrq] at SP
 have TT := Ho.mk T
 have M1 := Ho.mk M0
 have hbm := M0.lt
 have H64 := Ho.mk k64
 have H9 := Ho.mk r9
 have HRK := Ho.mk hrk
 have HRQ := Ho.mk hrq
 have HEI := Ho.mk hei
 have HE7 := Ho.mk e7
 have HLC := Ho.mk (look_cn s.2 r9)
 clear T M0 E e7 hm hs k64 r9 hrk hrq hei
 go_enter Tryz.func69, Tryz.ntmps69
 go_wp2_with fail
 have KT := Ho.mk ((Blk.new W0 [.int .i64 k, .int .i64 qi] 95).old (.cells #[.float .f64 0, .float .f64 0] 92))
 have KR := Ho.mk (Blk.new (W0.alloc (.cells #[.int .i64 k, .int .i64 qi] 95)) [.float .f64 0, .float .f64 0] 92)
 rw [World.size_alloc] at KR
 have g0 := Ho.mk (((Bel.refl W0).alloc (.cells #[.int .i64 k, .int .i64 qi] 95)).alloc (.cells #[.float .f64 0, .float .f64 0] 92))
 have hS : ((W0.alloc (.cells #[.int .i64 k, .int .i64 qi] 95)).alloc (.cells #[.float .f64 0, .float .f64 0] 92)).heap.size = W0.heap.size + 1 + 1 := by simp only [World.size_alloc]
 generalize ((W0.alloc (.cells #[.int .i64 k, .int .i64 qi] 95)).alloc (.cells #[.float .f64 0, .float .f64 0] 92)) = W at *
 obtain ⟨y0, y1⟩ := KT.out.c2
 go_wp2_with fail
 (with_reducible refine (SP.out _ (TT.out.bel g0.out)).mono ?_); rintro e w1 ⟨rfl, b1⟩
 have K5a := Ho.mk (Blk.new w1 [.int .i64 ei, .int .i64 rk, .int .i64 rq] 134)
 have KRa := Ho.mk (KR.out.bel (b1.alloc (.cells #[.int .i64 ei, .int .i64 rk, .int .i64 rq] 134)))
 have g1 := Ho.mk ((g0.out.trans b1).alloc (.cells #[.int .i64 ei, .int .i64 rk, .int .i64 rq] 134))
 have M2 := Ho.mk (M1.out.bel g1.out)
 have hp5 : W0.heap.size + 2 ≤ w1.heap.size := by have := b1.size; omega
 clear y0 y1 b1 KT KR
 obtain ⟨y0, y1, y2⟩ := K5a.out.c3
 go_upto_region 3 with (first | (at_lookup; refine wpList_look _ rfl rfl _ _ rfl M2.out rfl (r := s.2) H64.out H9.out HRK.out HRQ.out rfl ?_; intro hb c0 s0 hcs) | fail)
 have K6 := Ho.mk (Blk.new (w1.alloc (.cells #[.int .i64 ei, .int .i64 rk, .int .i64 rq] 134)) [.float .f64 c0, .float .f64 s0] 92)
 rw [World.size_alloc] at K6
 have K5 := Ho.mk (K5a.out.old (.cells #[.float .f64 c0, .float .f64 s0] 92))
 have KR := Ho.mk (KRa.out.old (.cells #[.float .f64 c0, .float .f64 s0] 92))
 have M := Ho.mk (M2.out.bel ((Bel.refl _).alloc (.cells #[.float .f64 c0, .float .f64 s0] 92)))
 have g2 := Ho.mk (g1.out.alloc (.cells #[.float .f64 c0, .float .f64 s0] 92))
 have HCS := Ho.mk hcs
 clear hcs g1 M2 y0 y1 y2 K5a KRa
 cases hb
 case' true =>
  obtain ⟨rfl, rfl⟩ := HCS.out rfl
  go_upto_region 6 with fail
  generalize (w1.alloc (.cells #[.int .i64 ei, .int .i64 rk, .int .i64 rq] 134)).alloc (.cells #[.float .f64 (lookT s.2).1, .float .f64 (lookT s.2).2] 92) = wc at *
  generalize w1.heap.size = p5 at *
  have M' := Ho.mk (M.out.mono (Nat.le_succ n))
  have G := Ho.mk (g2.out.gr bm)
  have TT' := Ho.mk (TT.out.bel g2.out)
  clear g2 M TT
  have M := M'
  have TT := TT'
  clear M' TT' HCS
 case' false =>
  clear HCS
  go_upto_region 4 with fail
  generalize (w1.alloc (.cells #[.int .i64 ei, .int .i64 rk, .int .i64 rq] 134)).alloc (.cells #[.float .f64 c0, .float .f64 s0] 92) = W3 at *
  generalize w1.heap.size = p5 at *
  obtain ⟨y0, y1, y2⟩ := K5.out.c3
  refine I7.wp_region_late 7 (S := fun w' => Bel W3 w') (by kernel_rfl) (Bel.refl _).drew (fun hHeld => ?_)
  (try dsimp only at hHeld)
  refine I7.kt (i := 0) hHeld ?_
  refine I7.kl (i := 1) (v := ?_) hHeld (fun w hSw => ?_) ?_
  rotate_left
  ·(have z0 := hSw.cell y1; have z1 := hSw.cell y2; go_simp; try (with_reducible rfl))
  refine I7.kt (i := 3) hHeld ?_
  refine I7.kl (i := 4) (v := ?_) hHeld (fun w hSw => ?_) ?_
  rotate_left
  ·(have z0 := hSw.cell y1; have z1 := hSw.cell y2; go_simp; try (with_reducible rfl))
  try simp only [Act.put, Ow.zS, Ow.zC, Ow.zD]
  refine I7.kc (i := 2) (fun K hK => ?_)
  go_simp
  go_at_call 104
  (with_reducible refine (TC.out _ (TT.out.bel (g2.out.trans hHeld))).mono ?_); rintro e w5 ⟨rfl, b5⟩
  try go_wp2_with fail
  refine hK.out _ _ (Bel.trans hHeld b5) (fun hHeld => ?_)
  clear hK K
  try simp only [Act.put, Ow.zS, Ow.zC, Ow.zD]
  refine I7.kc (i := 5) (fun K hK => ?_)
  go_simp
  go_at_call 105
  (with_reducible refine (TS.out _ (TT.out.bel (g2.out.trans hHeld))).mono ?_); rintro e w6 ⟨rfl, b6⟩
  try go_wp2_with fail
  refine hK.out _ _ (Bel.trans hHeld b6) (fun hHeld => ?_)
  clear hK K
  refine I7.kt (i := 6) hHeld ?_
  have K6 := Ho.mk (K6.out.bel hHeld)
  have K5 := Ho.mk (K5.out.bel hHeld)
  have KR := Ho.mk (KR.out.bel hHeld)
  have M := Ho.mk (M.out.bel hHeld)
  have g2 := Ho.mk (g2.out.trans hHeld)
  clear y0 y1 y2 hHeld
  obtain ⟨y0, y1⟩ := K6.out.c2
  have z0 := K6.out.free 0
  have z1 := K6.out.free 1
  try simp only [Act.put, Ow.zS, Ow.zC, Ow.zD]
  refine I7.ke (i := 7) (fun K hK => ?_)
  go_simp
  refine hK.out _ _ ?_
  clear hK K
  try simp only [Act.put, Ow.zS, Ow.zC, Ow.zD]
  refine wpAny_done (by kernel_rfl) ?_ _
  have K6 := Ho.mk ((K6.out.set 0 (.float .f64 (lookT s.2).1)).set 1 (.float .f64 (lookT s.2).2))
  have K5 := Ho.mk ((K5.out.far (p := ⟨p5 + 1, 0, none⟩) (by dsimp only; omega) (.float .f64 (lookT s.2).1)).far (p := ⟨p5 + 1, 1, none⟩) (by dsimp only; omega) (.float .f64 (lookT s.2).2))
  have KR := Ho.mk ((KR.out.far (p := ⟨p5 + 1, 0, none⟩) (by dsimp only; omega) (.float .f64 (lookT s.2).1)).far (p := ⟨p5 + 1, 1, none⟩) (by dsimp only; omega) (.float .f64 (lookT s.2).2))
  have M := Ho.mk (Mp.far (Mp.far M.out (p := ⟨p5 + 1, 0, none⟩) (by dsimp only; omega) (.float .f64 (lookT s.2).1)) (p := ⟨p5 + 1, 1, none⟩) (by dsimp only; omega) (.float .f64 (lookT s.2).2))
  have g2 := Ho.mk (show Bel W0 ((w6.setCell ⟨p5 + 1, 0, none⟩ (.float .f64 (lookT s.2).1)).setCell ⟨p5 + 1, 1, none⟩ (.float .f64 (lookT s.2).2)) from
   ⟨(g2.out.out.setCell (p := ⟨p5 + 1, 0, none⟩) (by dsimp only; omega) _).setCell (p := ⟨p5 + 1, 1, none⟩) (by dsimp only; omega) _⟩)
  simp only [List.set_cons_zero, List.set_cons_succ] at K6
  clear y0 y1 z0 z1
  generalize (w6.setCell ⟨p5 + 1, 0, none⟩ (.float .f64 (lookT s.2).1)).setCell ⟨p5 + 1, 1, none⟩ (.float .f64 (lookT s.2).2) = W8 at *
  obtain ⟨y0, y1⟩ := K6.out.c2
  obtain ⟨x0, x1, x2⟩ := K5.out.c3
  go_upto_region 6 with (first | (at_mapUpdate; refine wpList_put _ rfl rfl _ _ _ rfl M.out hn rfl (r := s.2) H64.out H9.out HRK.out HRQ.out rfl rfl ?_; intro wc m1 gc) | fail)
  have hlt5 := K5.out.lt
  have M3 := M.out.lt
  have K6 : Ho (Blk wc (p5 + 1) 92 [.float .f64 (lookT s.2).1, .float .f64 (lookT s.2).2]) := ⟨gc.blk K6.out (by omega)⟩
  have K5 := Ho.mk (gc.blk K5.out (by omega))
  have KR := Ho.mk (gc.blk KR.out (by omega))
  have G := Ho.mk ((g2.out.gr bm).trans gc)
  have TT : Ho (Tab wc) := ⟨tab_gr (TT.out.bel g2.out) gc (by have := I4.Tab.lt TT.out; intro e; exact hb2 e)⟩
  have M := Ho.mk m1
  clear x0 x1 x2 y0 y1 g2 m1 gc M3 hlt5
 all_goals
  rcases (show (s.1 = 0 ∧ ei = 0) ∨ (s.1 = 1 ∧ ei = 1) ∨ (s.1 = 2 ∧ ei = 2) ∨ (s.1 = 3 ∧ ei = 3) ∨ (s.1 = 4 ∧ ei = 4) ∨ (s.1 = 5 ∧ ei = 5) ∨ (s.1 = 6 ∧ ei = 6) ∨ (s.1 = 7 ∧ ei = 7) by have := HE7.out; have := HEI.out; omega) with ⟨he, rfl⟩ | ⟨he, rfl⟩ | ⟨he, rfl⟩ | ⟨he, rfl⟩ | ⟨he, rfl⟩ | ⟨he, rfl⟩ | ⟨he, rfl⟩ | ⟨he, rfl⟩
  have PL : Ho (∀ w, Calls Tryz.prog 106 #[.int .i64 0] w (fun r w' => r = .returned (.tuple #[.bool false, .bool false, .bool false]) ∧ Bel w w')) := ⟨fun w => U2.dPlace (e := 0) w (by decide) rfl⟩
  rotate_left
  have PL : Ho (∀ w, Calls Tryz.prog 106 #[.int .i64 1] w (fun r w' => r = .returned (.tuple #[.bool true, .bool false, .bool false]) ∧ Bel w w')) := ⟨fun w => U2.dPlace (e := 1) w (by decide) rfl⟩
  rotate_left
  have PL : Ho (∀ w, Calls Tryz.prog 106 #[.int .i64 2] w (fun r w' => r = .returned (.tuple #[.bool true, .bool true, .bool false]) ∧ Bel w w')) := ⟨fun w => U2.dPlace (e := 2) w (by decide) rfl⟩
  rotate_left
  have PL : Ho (∀ w, Calls Tryz.prog 106 #[.int .i64 3] w (fun r w' => r = .returned (.tuple #[.bool false, .bool true, .bool false]) ∧ Bel w w')) := ⟨fun w => U2.dPlace (e := 3) w (by decide) rfl⟩
  rotate_left
  have PL : Ho (∀ w, Calls Tryz.prog 106 #[.int .i64 4] w (fun r w' => r = .returned (.tuple #[.bool false, .bool true, .bool true]) ∧ Bel w w')) := ⟨fun w => U2.dPlace (e := 4) w (by decide) rfl⟩
  rotate_left
  have PL : Ho (∀ w, Calls Tryz.prog 106 #[.int .i64 5] w (fun r w' => r = .returned (.tuple #[.bool true, .bool true, .bool true]) ∧ Bel w w')) := ⟨fun w => U2.dPlace (e := 5) w (by decide) rfl⟩
  rotate_left
  have PL : Ho (∀ w, Calls Tryz.prog 106 #[.int .i64 6] w (fun r w' => r = .returned (.tuple #[.bool true, .bool false, .bool true]) ∧ Bel w w')) := ⟨fun w => U2.dPlace (e := 6) w (by decide) rfl⟩
  rotate_left
  have PL : Ho (∀ w, Calls Tryz.prog 106 #[.int .i64 7] w (fun r w' => r = .returned (.tuple #[.bool false, .bool false, .bool true]) ∧ Bel w w')) := ⟨fun w => U2.dPlace (e := 7) w (by decide) rfl⟩
  rotate_left
  all_goals
   have HEJ := Ho.mk he
   clear he HEI HE7
   obtain ⟨y0, y1, y2⟩ := K5.out.c3
   go_wp2_with fail
   (with_reducible refine (PL.out _).mono ?_); rintro e w9 ⟨rfl, b9⟩
   have K6b := Ho.mk (K6.out.bel b9)
   have KRb := Ho.mk (KR.out.bel b9)
   have Mb := Ho.mk (M.out.bel b9)
   have Gb := Ho.mk (G.out.trans (b9.gr bm))
   clear y0 y1 y2 b9
   have y0 := K6b.out.cell (i := 0) rfl
   have z0 := K6b.out.free 0
   have x0 := KRb.out.cell (i := 0) rfl
   have v0 := KRb.out.free 0
   have y1 := K6b.out.cell (i := 1) rfl
   have z1 := K6b.out.free 1
   have x1 := KRb.out.cell (i := 1) rfl
   have v1 := KRb.out.free 1
   have hne : ¬ (p5 + 1 = W0.heap.size + 1) := by omega
   have hne2 : ¬ (W0.heap.size + 1 = p5 + 1) := by omega
  ·skip
   go_upto_region 13 with fail
   go_wp2
   exact bodyPost_ret (res2f (fn := Tryz.f69) rfl rfl ((KRb.out.set 0 _).set 1 _)) rfl ⟨_, _, rfl, HLC.out.2.2.1, HLC.out.2.2.2, (by rw [HEJ.out]; exact HLC.out.1), (by rw [HEJ.out]; exact HLC.out.2.1), (Mp.far (Mp.far Mb.out (p := ⟨W0.heap.size + 1, 0, none⟩) (by dsimp only; omega) _) (p := ⟨W0.heap.size + 1, 1, none⟩) (by dsimp only; omega) _), ((Gb.out.setNew (p := ⟨W0.heap.size + 1, 0, none⟩) (by dsimp only; omega) _).setNew (p := ⟨W0.heap.size + 1, 1, none⟩) (by dsimp only; omega) _)⟩
  ·skip
   go_upto_region 13 with fail
   have K6c : Ho (Blk ((w9.setCell ⟨p5 + 1, 0, none⟩ (.float .f64 (lookT s.2).2)).setCell ⟨p5 + 1, 1, none⟩ (.float .f64 (lookT s.2).1)) (p5 + 1) 92 [.float .f64 (lookT s.2).2, .float .f64 (lookT s.2).1]) := ⟨((K6b.out.set 0 (.float .f64 (lookT s.2).2)).set 1 (.float .f64 (lookT s.2).1))⟩
   have KRb := Ho.mk ((KRb.out.far (p := ⟨p5 + 1, 0, none⟩) (by dsimp only; omega) (.float .f64 (lookT s.2).2)).far (p := ⟨p5 + 1, 1, none⟩) (by dsimp only; omega) (.float .f64 (lookT s.2).1))
   have Mb := Ho.mk (Mp.far (Mp.far Mb.out (p := ⟨p5 + 1, 0, none⟩) (by dsimp only; omega) (.float .f64 (lookT s.2).2)) (p := ⟨p5 + 1, 1, none⟩) (by dsimp only; omega) (.float .f64 (lookT s.2).1))
   have Gb := Ho.mk ((Gb.out.setNew (p := ⟨p5 + 1, 0, none⟩) (by dsimp only; omega) (.float .f64 (lookT s.2).2)).setNew (p := ⟨p5 + 1, 1, none⟩) (by dsimp only; omega) (.float .f64 (lookT s.2).1))
   clear y0 y1 z0 z1 x0 x1 v0 v1
   generalize ((w9.setCell ⟨p5 + 1, 0, none⟩ (.float .f64 (lookT s.2).2)).setCell ⟨p5 + 1, 1, none⟩ (.float .f64 (lookT s.2).1)) = wz at *
   have y0 := K6c.out.cell (i := 0) rfl
   have z0 := K6c.out.free 0
   have x0 := KRb.out.cell (i := 0) rfl
   have v0 := KRb.out.free 0
   have y1 := K6c.out.cell (i := 1) rfl
   have z1 := K6c.out.free 1
   have x1 := KRb.out.cell (i := 1) rfl
   have v1 := KRb.out.free 1
   go_wp2
   exact bodyPost_ret (res2f (fn := Tryz.f69) rfl rfl ((KRb.out.set 0 _).set 1 _)) rfl ⟨_, _, rfl, HLC.out.2.2.2, HLC.out.2.2.1, (by rw [HEJ.out]; exact HLC.out.2.1), (by rw [HEJ.out]; exact HLC.out.1), (Mp.far (Mp.far Mb.out (p := ⟨W0.heap.size + 1, 0, none⟩) (by dsimp only; omega) _) (p := ⟨W0.heap.size + 1, 1, none⟩) (by dsimp only; omega) _), ((Gb.out.setNew (p := ⟨W0.heap.size + 1, 0, none⟩) (by dsimp only; omega) _).setNew (p := ⟨W0.heap.size + 1, 1, none⟩) (by dsimp only; omega) _)⟩
  ·skip
   go_upto_region 13 with fail
   have K6c : Ho (Blk (((w9.setCell ⟨p5 + 1, 0, none⟩ (.float .f64 (lookT s.2).2)).setCell ⟨p5 + 1, 1, none⟩ (.float .f64 (lookT s.2).1)).setCell ⟨p5 + 1, 0, none⟩ (.float .f64 (Op.negFloat .f64 (lookT s.2).2))) (p5 + 1) 92 [.float .f64 (Op.negFloat .f64 (lookT s.2).2), .float .f64 (lookT s.2).1]) := ⟨(((K6b.out.set 0 (.float .f64 (lookT s.2).2)).set 1 (.float .f64 (lookT s.2).1)).set 0 (.float .f64 (Op.negFloat .f64 (lookT s.2).2)))⟩
   have KRb := Ho.mk (((KRb.out.far (p := ⟨p5 + 1, 0, none⟩) (by dsimp only; omega) (.float .f64 (lookT s.2).2)).far (p := ⟨p5 + 1, 1, none⟩) (by dsimp only; omega) (.float .f64 (lookT s.2).1)).far (p := ⟨p5 + 1, 0, none⟩) (by dsimp only; omega) (.float .f64 (Op.negFloat .f64 (lookT s.2).2)))
   have Mb := Ho.mk (Mp.far (Mp.far (Mp.far Mb.out (p := ⟨p5 + 1, 0, none⟩) (by dsimp only; omega) (.float .f64 (lookT s.2).2)) (p := ⟨p5 + 1, 1, none⟩) (by dsimp only; omega) (.float .f64 (lookT s.2).1)) (p := ⟨p5 + 1, 0, none⟩) (by dsimp only; omega) (.float .f64 (Op.negFloat .f64 (lookT s.2).2)))
   have Gb := Ho.mk (((Gb.out.setNew (p := ⟨p5 + 1, 0, none⟩) (by dsimp only; omega) (.float .f64 (lookT s.2).2)).setNew (p := ⟨p5 + 1, 1, none⟩) (by dsimp only; omega) (.float .f64 (lookT s.2).1)).setNew (p := ⟨p5 + 1, 0, none⟩) (by dsimp only; omega) (.float .f64 (Op.negFloat .f64 (lookT s.2).2)))
   clear y0 y1 z0 z1 x0 x1 v0 v1
   generalize (((w9.setCell ⟨p5 + 1, 0, none⟩ (.float .f64 (lookT s.2).2)).setCell ⟨p5 + 1, 1, none⟩ (.float .f64 (lookT s.2).1)).setCell ⟨p5 + 1, 0, none⟩ (.float .f64 (Op.negFloat .f64 (lookT s.2).2))) = wz at *
   have y0 := K6c.out.cell (i := 0) rfl
   have z0 := K6c.out.free 0
   have x0 := KRb.out.cell (i := 0) rfl
   have v0 := KRb.out.free 0
   have y1 := K6c.out.cell (i := 1) rfl
   have z1 := K6c.out.free 1
   have x1 := KRb.out.cell (i := 1) rfl
   have v1 := KRb.out.free 1
   go_wp2
   exact bodyPost_ret (res2f (fn := Tryz.f69) rfl rfl ((KRb.out.set 0 _).set 1 _)) rfl ⟨_, _, rfl, (fng_lt' HLC.out.2.2.2), HLC.out.2.2.1, (by rw [HEJ.out]; exact (neg_cn HLC.out.2.2.2).trans (congrArg fng HLC.out.2.1)), (by rw [HEJ.out]; exact HLC.out.1), (Mp.far (Mp.far Mb.out (p := ⟨W0.heap.size + 1, 0, none⟩) (by dsimp only; omega) _) (p := ⟨W0.heap.size + 1, 1, none⟩) (by dsimp only; omega) _), ((Gb.out.setNew (p := ⟨W0.heap.size + 1, 0, none⟩) (by dsimp only; omega) _).setNew (p := ⟨W0.heap.size + 1, 1, none⟩) (by dsimp only; omega) _)⟩
  ·skip
   go_upto_region 13 with fail
   have K6c : Ho (Blk (w9.setCell ⟨p5 + 1, 0, none⟩ (.float .f64 (Op.negFloat .f64 (lookT s.2).1))) (p5 + 1) 92 [.float .f64 (Op.negFloat .f64 (lookT s.2).1), .float .f64 (lookT s.2).2]) := ⟨(K6b.out.set 0 (.float .f64 (Op.negFloat .f64 (lookT s.2).1)))⟩
   have KRb := Ho.mk (KRb.out.far (p := ⟨p5 + 1, 0, none⟩) (by dsimp only; omega) (.float .f64 (Op.negFloat .f64 (lookT s.2).1)))
   have Mb := Ho.mk (Mp.far Mb.out (p := ⟨p5 + 1, 0, none⟩) (by dsimp only; omega) (.float .f64 (Op.negFloat .f64 (lookT s.2).1)))
   have Gb := Ho.mk (Gb.out.setNew (p := ⟨p5 + 1, 0, none⟩) (by dsimp only; omega) (.float .f64 (Op.negFloat .f64 (lookT s.2).1)))
   clear y0 y1 z0 z1 x0 x1 v0 v1
   generalize (w9.setCell ⟨p5 + 1, 0, none⟩ (.float .f64 (Op.negFloat .f64 (lookT s.2).1))) = wz at *
   have y0 := K6c.out.cell (i := 0) rfl
   have z0 := K6c.out.free 0
   have x0 := KRb.out.cell (i := 0) rfl
   have v0 := KRb.out.free 0
   have y1 := K6c.out.cell (i := 1) rfl
   have z1 := K6c.out.free 1
   have x1 := KRb.out.cell (i := 1) rfl
   have v1 := KRb.out.free 1
   go_wp2
   exact bodyPost_ret (res2f (fn := Tryz.f69) rfl rfl ((KRb.out.set 0 _).set 1 _)) rfl ⟨_, _, rfl, (fng_lt' HLC.out.2.2.1), HLC.out.2.2.2, (by rw [HEJ.out]; exact (neg_cn HLC.out.2.2.1).trans (congrArg fng HLC.out.1)), (by rw [HEJ.out]; exact HLC.out.2.1), (Mp.far (Mp.far Mb.out (p := ⟨W0.heap.size + 1, 0, none⟩) (by dsimp only; omega) _) (p := ⟨W0.heap.size + 1, 1, none⟩) (by dsimp only; omega) _), ((Gb.out.setNew (p := ⟨W0.heap.size + 1, 0, none⟩) (by dsimp only; omega) _).setNew (p := ⟨W0.heap.size + 1, 1, none⟩) (by dsimp only; omega) _)⟩
  ·skip
   go_upto_region 13 with fail
   have K6c : Ho (Blk ((w9.setCell ⟨p5 + 1, 0, none⟩ (.float .f64 (Op.negFloat .f64 (lookT s.2).1))).setCell ⟨p5 + 1, 1, none⟩ (.float .f64 (Op.negFloat .f64 (lookT s.2).2))) (p5 + 1) 92 [.float .f64 (Op.negFloat .f64 (lookT s.2).1), .float .f64 (Op.negFloat .f64 (lookT s.2).2)]) := ⟨((K6b.out.set 0 (.float .f64 (Op.negFloat .f64 (lookT s.2).1))).set 1 (.float .f64 (Op.negFloat .f64 (lookT s.2).2)))⟩
   have KRb := Ho.mk ((KRb.out.far (p := ⟨p5 + 1, 0, none⟩) (by dsimp only; omega) (.float .f64 (Op.negFloat .f64 (lookT s.2).1))).far (p := ⟨p5 + 1, 1, none⟩) (by dsimp only; omega) (.float .f64 (Op.negFloat .f64 (lookT s.2).2)))
   have Mb := Ho.mk (Mp.far (Mp.far Mb.out (p := ⟨p5 + 1, 0, none⟩) (by dsimp only; omega) (.float .f64 (Op.negFloat .f64 (lookT s.2).1))) (p := ⟨p5 + 1, 1, none⟩) (by dsimp only; omega) (.float .f64 (Op.negFloat .f64 (lookT s.2).2)))
   have Gb := Ho.mk ((Gb.out.setNew (p := ⟨p5 + 1, 0, none⟩) (by dsimp only; omega) (.float .f64 (Op.negFloat .f64 (lookT s.2).1))).setNew (p := ⟨p5 + 1, 1, none⟩) (by dsimp only; omega) (.float .f64 (Op.negFloat .f64 (lookT s.2).2)))
   clear y0 y1 z0 z1 x0 x1 v0 v1
   generalize ((w9.setCell ⟨p5 + 1, 0, none⟩ (.float .f64 (Op.negFloat .f64 (lookT s.2).1))).setCell ⟨p5 + 1, 1, none⟩ (.float .f64 (Op.negFloat .f64 (lookT s.2).2))) = wz at *
   have y0 := K6c.out.cell (i := 0) rfl
   have z0 := K6c.out.free 0
   have x0 := KRb.out.cell (i := 0) rfl
   have v0 := KRb.out.free 0
   have y1 := K6c.out.cell (i := 1) rfl
   have z1 := K6c.out.free 1
   have x1 := KRb.out.cell (i := 1) rfl
   have v1 := KRb.out.free 1
   go_wp2
   exact bodyPost_ret (res2f (fn := Tryz.f69) rfl rfl ((KRb.out.set 0 _).set 1 _)) rfl ⟨_, _, rfl, (fng_lt' HLC.out.2.2.1), (fng_lt' HLC.out.2.2.2), (by rw [HEJ.out]; exact (neg_cn HLC.out.2.2.1).trans (congrArg fng HLC.out.1)), (by rw [HEJ.out]; exact (neg_cn HLC.out.2.2.2).trans (congrArg fng HLC.out.2.1)), (Mp.far (Mp.far Mb.out (p := ⟨W0.heap.size + 1, 0, none⟩) (by dsimp only; omega) _) (p := ⟨W0.heap.size + 1, 1, none⟩) (by dsimp only; omega) _), ((Gb.out.setNew (p := ⟨W0.heap.size + 1, 0, none⟩) (by dsimp only; omega) _).setNew (p := ⟨W0.heap.size + 1, 1, none⟩) (by dsimp only; omega) _)⟩
  ·skip
   go_upto_region 13 with fail
   have K6c : Ho (Blk ((((w9.setCell ⟨p5 + 1, 0, none⟩ (.float .f64 (lookT s.2).2)).setCell ⟨p5 + 1, 1, none⟩ (.float .f64 (lookT s.2).1)).setCell ⟨p5 + 1, 0, none⟩ (.float .f64 (Op.negFloat .f64 (lookT s.2).2))).setCell ⟨p5 + 1, 1, none⟩ (.float .f64 (Op.negFloat .f64 (lookT s.2).1))) (p5 + 1) 92 [.float .f64 (Op.negFloat .f64 (lookT s.2).2), .float .f64 (Op.negFloat .f64 (lookT s.2).1)]) := ⟨((((K6b.out.set 0 (.float .f64 (lookT s.2).2)).set 1 (.float .f64 (lookT s.2).1)).set 0 (.float .f64 (Op.negFloat .f64 (lookT s.2).2))).set 1 (.float .f64 (Op.negFloat .f64 (lookT s.2).1)))⟩
   have KRb := Ho.mk ((((KRb.out.far (p := ⟨p5 + 1, 0, none⟩) (by dsimp only; omega) (.float .f64 (lookT s.2).2)).far (p := ⟨p5 + 1, 1, none⟩) (by dsimp only; omega) (.float .f64 (lookT s.2).1)).far (p := ⟨p5 + 1, 0, none⟩) (by dsimp only; omega) (.float .f64 (Op.negFloat .f64 (lookT s.2).2))).far (p := ⟨p5 + 1, 1, none⟩) (by dsimp only; omega) (.float .f64 (Op.negFloat .f64 (lookT s.2).1)))
   have Mb := Ho.mk (Mp.far (Mp.far (Mp.far (Mp.far Mb.out (p := ⟨p5 + 1, 0, none⟩) (by dsimp only; omega) (.float .f64 (lookT s.2).2)) (p := ⟨p5 + 1, 1, none⟩) (by dsimp only; omega) (.float .f64 (lookT s.2).1)) (p := ⟨p5 + 1, 0, none⟩) (by dsimp only; omega) (.float .f64 (Op.negFloat .f64 (lookT s.2).2))) (p := ⟨p5 + 1, 1, none⟩) (by dsimp only; omega) (.float .f64 (Op.negFloat .f64 (lookT s.2).1)))
   have Gb := Ho.mk ((((Gb.out.setNew (p := ⟨p5 + 1, 0, none⟩) (by dsimp only; omega) (.float .f64 (lookT s.2).2)).setNew (p := ⟨p5 + 1, 1, none⟩) (by dsimp only; omega) (.float .f64 (lookT s.2).1)).setNew (p := ⟨p5 + 1, 0, none⟩) (by dsimp only; omega) (.float .f64 (Op.negFloat .f64 (lookT s.2).2))).setNew (p := ⟨p5 + 1, 1, none⟩) (by dsimp only; omega) (.float .f64 (Op.negFloat .f64 (lookT s.2).1)))
   clear y0 y1 z0 z1 x0 x1 v0 v1
   generalize ((((w9.setCell ⟨p5 + 1, 0, none⟩ (.float .f64 (lookT s.2).2)).setCell ⟨p5 + 1, 1, none⟩ (.float .f64 (lookT s.2).1)).setCell ⟨p5 + 1, 0, none⟩ (.float .f64 (Op.negFloat .f64 (lookT s.2).2))).setCell ⟨p5 + 1, 1, none⟩ (.float .f64 (Op.negFloat .f64 (lookT s.2).1))) = wz at *
   have y0 := K6c.out.cell (i := 0) rfl
   have z0 := K6c.out.free 0
   have x0 := KRb.out.cell (i := 0) rfl
   have v0 := KRb.out.free 0
   have y1 := K6c.out.cell (i := 1) rfl
   have z1 := K6c.out.free 1
   have x1 := KRb.out.cell (i := 1) rfl
   have v1 := KRb.out.free 1
   go_wp2
   exact bodyPost_ret (res2f (fn := Tryz.f69) rfl rfl ((KRb.out.set 0 _).set 1 _)) rfl ⟨_, _, rfl, (fng_lt' HLC.out.2.2.2), (fng_lt' HLC.out.2.2.1), (by rw [HEJ.out]; exact (neg_cn HLC.out.2.2.2).trans (congrArg fng HLC.out.2.1)), (by rw [HEJ.out]; exact (neg_cn HLC.out.2.2.1).trans (congrArg fng HLC.out.1)), (Mp.far (Mp.far Mb.out (p := ⟨W0.heap.size + 1, 0, none⟩) (by dsimp only; omega) _) (p := ⟨W0.heap.size + 1, 1, none⟩) (by dsimp only; omega) _), ((Gb.out.setNew (p := ⟨W0.heap.size + 1, 0, none⟩) (by dsimp only; omega) _).setNew (p := ⟨W0.heap.size + 1, 1, none⟩) (by dsimp only; omega) _)⟩
  ·skip
   go_upto_region 13 with fail
   have K6c : Ho (Blk (((w9.setCell ⟨p5 + 1, 0, none⟩ (.float .f64 (lookT s.2).2)).setCell ⟨p5 + 1, 1, none⟩ (.float .f64 (lookT s.2).1)).setCell ⟨p5 + 1, 1, none⟩ (.float .f64 (Op.negFloat .f64 (lookT s.2).1))) (p5 + 1) 92 [.float .f64 (lookT s.2).2, .float .f64 (Op.negFloat .f64 (lookT s.2).1)]) := ⟨(((K6b.out.set 0 (.float .f64 (lookT s.2).2)).set 1 (.float .f64 (lookT s.2).1)).set 1 (.float .f64 (Op.negFloat .f64 (lookT s.2).1)))⟩
   have KRb := Ho.mk (((KRb.out.far (p := ⟨p5 + 1, 0, none⟩) (by dsimp only; omega) (.float .f64 (lookT s.2).2)).far (p := ⟨p5 + 1, 1, none⟩) (by dsimp only; omega) (.float .f64 (lookT s.2).1)).far (p := ⟨p5 + 1, 1, none⟩) (by dsimp only; omega) (.float .f64 (Op.negFloat .f64 (lookT s.2).1)))
   have Mb := Ho.mk (Mp.far (Mp.far (Mp.far Mb.out (p := ⟨p5 + 1, 0, none⟩) (by dsimp only; omega) (.float .f64 (lookT s.2).2)) (p := ⟨p5 + 1, 1, none⟩) (by dsimp only; omega) (.float .f64 (lookT s.2).1)) (p := ⟨p5 + 1, 1, none⟩) (by dsimp only; omega) (.float .f64 (Op.negFloat .f64 (lookT s.2).1)))
   have Gb := Ho.mk (((Gb.out.setNew (p := ⟨p5 + 1, 0, none⟩) (by dsimp only; omega) (.float .f64 (lookT s.2).2)).setNew (p := ⟨p5 + 1, 1, none⟩) (by dsimp only; omega) (.float .f64 (lookT s.2).1)).setNew (p := ⟨p5 + 1, 1, none⟩) (by dsimp only; omega) (.float .f64 (Op.negFloat .f64 (lookT s.2).1)))
   clear y0 y1 z0 z1 x0 x1 v0 v1
   generalize (((w9.setCell ⟨p5 + 1, 0, none⟩ (.float .f64 (lookT s.2).2)).setCell ⟨p5 + 1, 1, none⟩ (.float .f64 (lookT s.2).1)).setCell ⟨p5 + 1, 1, none⟩ (.float .f64 (Op.negFloat .f64 (lookT s.2).1))) = wz at *
   have y0 := K6c.out.cell (i := 0) rfl
   have z0 := K6c.out.free 0
   have x0 := KRb.out.cell (i := 0) rfl
   have v0 := KRb.out.free 0
   have y1 := K6c.out.cell (i := 1) rfl
   have z1 := K6c.out.free 1
   have x1 := KRb.out.cell (i := 1) rfl
   have v1 := KRb.out.free 1
   go_wp2
   exact bodyPost_ret (res2f (fn := Tryz.f69) rfl rfl ((KRb.out.set 0 _).set 1 _)) rfl ⟨_, _, rfl, HLC.out.2.2.2, (fng_lt' HLC.out.2.2.1), (by rw [HEJ.out]; exact HLC.out.2.1), (by rw [HEJ.out]; exact (neg_cn HLC.out.2.2.1).trans (congrArg fng HLC.out.1)), (Mp.far (Mp.far Mb.out (p := ⟨W0.heap.size + 1, 0, none⟩) (by dsimp only; omega) _) (p := ⟨W0.heap.size + 1, 1, none⟩) (by dsimp only; omega) _), ((Gb.out.setNew (p := ⟨W0.heap.size + 1, 0, none⟩) (by dsimp only; omega) _).setNew (p := ⟨W0.heap.size + 1, 1, none⟩) (by dsimp only; omega) _)⟩
  ·skip
   go_upto_region 13 with fail
   have K6c : Ho (Blk (w9.setCell ⟨p5 + 1, 1, none⟩ (.float .f64 (Op.negFloat .f64 (lookT s.2).2))) (p5 + 1) 92 [.float .f64 (lookT s.2).1, .float .f64 (Op.negFloat .f64 (lookT s.2).2)]) := ⟨(K6b.out.set 1 (.float .f64 (Op.negFloat .f64 (lookT s.2).2)))⟩
   have KRb := Ho.mk (KRb.out.far (p := ⟨p5 + 1, 1, none⟩) (by dsimp only; omega) (.float .f64 (Op.negFloat .f64 (lookT s.2).2)))
   have Mb := Ho.mk (Mp.far Mb.out (p := ⟨p5 + 1, 1, none⟩) (by dsimp only; omega) (.float .f64 (Op.negFloat .f64 (lookT s.2).2)))
   have Gb := Ho.mk (Gb.out.setNew (p := ⟨p5 + 1, 1, none⟩) (by dsimp only; omega) (.float .f64 (Op.negFloat .f64 (lookT s.2).2)))
   clear y0 y1 z0 z1 x0 x1 v0 v1
   generalize (w9.setCell ⟨p5 + 1, 1, none⟩ (.float .f64 (Op.negFloat .f64 (lookT s.2).2))) = wz at *
   have y0 := K6c.out.cell (i := 0) rfl
   have z0 := K6c.out.free 0
   have x0 := KRb.out.cell (i := 0) rfl
   have v0 := KRb.out.free 0
   have y1 := K6c.out.cell (i := 1) rfl
   have z1 := K6c.out.free 1
   have x1 := KRb.out.cell (i := 1) rfl
   have v1 := KRb.out.free 1
   go_wp2
   exact bodyPost_ret (res2f (fn := Tryz.f69) rfl rfl ((KRb.out.set 0 _).set 1 _)) rfl ⟨_, _, rfl, HLC.out.2.2.1, (fng_lt' HLC.out.2.2.2), (by rw [HEJ.out]; exact HLC.out.1), (by rw [HEJ.out]; exact (neg_cn HLC.out.2.2.2).trans (congrArg fng HLC.out.2.1)), (Mp.far (Mp.far Mb.out (p := ⟨W0.heap.size + 1, 0, none⟩) (by dsimp only; omega) _) (p := ⟨W0.heap.size + 1, 1, none⟩) (by dsimp only; omega) _), ((Gb.out.setNew (p := ⟨W0.heap.size + 1, 0, none⟩) (by dsimp only; omega) _).setNew (p := ⟨W0.heap.size + 1, 1, none⟩) (by dsimp only; omega) _)⟩
end S3
namespace S4
open Ieee Go Go.RowKit Go.Proofs Go.Proofs.YtalbgklfhabnkaaGreatDoor Ow Pl Dp Dt Gp F1 I0 T1 U0 U1 W0 S1 S2 S3
attribute [local go_sem ↓] Go.wp_at_zero Go.wp_at_succ
theorem infoF : (Tryz.prog.info? 22).map (fun i => (i.zero, i.size, i.bytes)) = some (some (.float .f64 0), 1, 8) := by kernel_rfl
def upRow (f : Nat → Nat) (m i : Nat) : List Nat := (List.range m).map fun j => if j < i then f j else 0
theorem upRow_len (f : Nat → Nat) (m i : Nat) : (upRow f m i).length = m := by simp [upRow]
theorem upRow_zero (f : Nat → Nat) (m : Nat) : upRow f m 0 = List.replicate m 0 := by
 apply List.ext_getElem (by simp [upRow])
 intro i h1 h2; simp [upRow]
theorem upRow_all (f : Nat → Nat) (m : Nat) : upRow f m m = (List.range m).map f := by
 apply List.ext_getElem (by simp [upRow])
 intro i h1 h2
 simp [upRow] at h1 ⊢
 omega
theorem upRow_set (f : Nat → Nat) (m i : Nat) (hi : i < m) : (upRow f m i).set i (f i) = upRow f m (i + 1) := by
 apply List.ext_getElem (by simp [upRow])
 intro j h1 h2
 simp [upRow] at h1 h2 ⊢
 rw [List.getElem_set]
 by_cases e : i = j
 ·subst e; simp
 ·simp only [if_neg e, List.getElem_map, List.getElem_range]
  by_cases h : j < i
  ·rw [if_pos h, if_pos (by omega)]
  ·rw [if_neg h, if_neg (by omega)]
def TellsC (W0 : World) (x : Nat) (e : Ending) (w' : World) : Prop := ∃ r, e = .returned (.float .f64 r) ∧ r < 2 * sgnW ∧ cn r = x ∧ Bel W0 w'
theorem dRowF {m fn bl : Nat} {mi : Int} (W0 : World) (f : Nat → Nat) (hmi : mi = (m : Int)) (hm : m ≤ 100000) (hfn : fn = 71 ∨ fn = 72)
  (hmade : ∀ k, k < m → ∀ w, Bel W0 w → Calls Tryz.prog fn #[.int .i64 (k : Int), .pointer (some ⟨bl, 0, none⟩)] w (TellsC w (f k))) :
  Calls Tryz.prog 70 #[.int .i64 mi, .func (.func fn) #[] #[.pointer (some ⟨bl, 0, none⟩)]] W0
   fun e w' => ∃ b, e = .returned (.slice (some ⟨b, 0, none⟩) m m) ∧ Fk w' b ((List.range m).map f) ∧ W0.heap.size ≤ b ∧ Bel W0 w' := by
 subst hmi
 have MA := Ho.mk hmade
 clear hmade
 rcases hfn with rfl | rfl
 all_goals
  go_enter Tryz.func70, Tryz.ntmps70
  go_wp2_with (at_make; refine wpList_mk _ rfl _ _ 25 rfl 22 (.float .f64 0) 8 Tryz.underlying25 infoF rfl m rfl rfl (by omega) (by omega) ?_; intro w1 hk1 hl1 hs1)
  obtain ⟨bo, hbo⟩ : ∃ bo, bo = W0.heap.size := ⟨_, rfl⟩
  rw [← hbo] at hk1 hs1 ⊢
  have HK1 := Ho.mk (Fk.zero hk1)
  have HL1 := Ho.mk hl1
  have HBO := Ho.mk hbo
  clear hk1 hl1 hs1 hbo
  go_loopw [11] (fun v wr => ∃ (i : Nat), i ≤ m ∧ v = .int .i64 i ∧ Ho (Fk wr bo (upRow f m i)) ∧ Ho (Bel W0 wr)) (fun v _ => m - (intOf v).toNat)
  case atStart => exact ⟨0, Nat.zero_le _, rfl, ⟨by rw [upRow_zero]; exact HK1.out⟩, HL1⟩
  case round =>
   obtain ⟨i, hi, rfl, FK, HW⟩ := hrel
   rcases Nat.lt_or_ge i m with hlt | hge
   ·have hl2 : i < (upRow f m i).length := by rw [upRow_len]; exact hlt
    go_wp2_with (first | (go_at_call 71; (with_reducible refine (MA.out i hlt _ HW.out).mono ?_); rintro e w5 ⟨r, rfl, r1, r2, b5⟩; have FB := Ho.mk (FK.out.bel b5); obtain ⟨r0, y0, _, _⟩ := FB.out.at_ hl2; have y1 := FB.out.free i) | (go_at_call 72; (with_reducible refine (MA.out i hlt _ HW.out).mono ?_); rintro e w5 ⟨r, rfl, r1, r2, b5⟩; have FB := Ho.mk (FK.out.bel b5); obtain ⟨r0, y0, _, _⟩ := FB.out.at_ hl2; have y1 := FB.out.free i) | fail)
    go_roundw
    case rel =>
     have hk := FB.out.set i r1 r2
     rw [upRow_set f m i hlt] at hk
     exact ⟨i + 1, by omega, by simp, ⟨hk⟩, ⟨⟨(HW.out.trans b5).out.setCell (by have := HBO.out; dsimp only; omega) _⟩⟩⟩
    case measure => simp [intOf]; omega
   ·obtain rfl : i = m := by omega
    rw [upRow_all] at FK
    go_wp2
    go_ret
    exact ⟨bo, rfl, FK.out, by have := HBO.out; omega, HW.out⟩
end S4
namespace S5
open Ieee Go Go.RowKit Go.Proofs Go.Proofs.YtalbgklfhabnkaaGreatDoor Ow Pl Dp Dt Gp F1 I0 T1 U0 U1 W0 S1 S2 S3 S4
attribute [local go_sem ↓] Go.wp_at_zero Go.wp_at_succ
theorem infoP : (Tryz.prog.info? 92).map (fun i => (i.zero, i.size, i.bytes)) = some (some (.agg #[.float .f64 0, .float .f64 0]), 2, 16) := by kernel_rfl
structure Pk (w : World) (b : Nat) (X : List Nat) : Prop where
 out : ∃ cs : List Value, Blk w b 92 cs ∧ cs.length = X.length ∧ ∀ j v, cs[j]? = some v → Fc v (nthN X j)
theorem Pk.bel {w w' : World} {b : Nat} {X : List Nat} (h : Pk w b X) (g : Bel w w') : Pk w' b X := by
 obtain ⟨cs, h1, h2⟩ := h.out; exact ⟨cs, h1.bel g, h2⟩
theorem Pk.lt {w : World} {b : Nat} {X : List Nat} (h : Pk w b X) : b < w.heap.size := by obtain ⟨cs, h1, _⟩ := h.out; exact h1.lt
theorem Pk.gr {w w' : World} {b b' : Nat} {X : List Nat} (h : Pk w b X) (g : Gr b' w w') (ne : b ≠ b') : Pk w' b X := by
 obtain ⟨cs, h1, h2⟩ := h.out; exact ⟨cs, g.blk h1 ne, h2⟩
theorem Pk.at_ {w : World} {b : Nat} {X : List Nat} (h : Pk w b X) {i : Nat} (hi : i < X.length) : ∃ r, w.cell? ⟨b, i, none⟩ = some (.float .f64 r) ∧ r < 2 * sgnW ∧ cn r = nthN X i := by
 obtain ⟨cs, h1, h2, h3⟩ := h.out
 have hc : cs[i]? = some cs[i] := List.getElem?_eq_getElem (by omega)
 obtain ⟨r, e, k1, k2⟩ := h3 i _ hc
 exact ⟨r, by rw [h1.cell hc, e], k1, k2⟩
theorem Pk.free {w : World} {b : Nat} {X : List Nat} (h : Pk w b X) (i : Nat) : w.frozen? ⟨b, i, none⟩ = false := by
 obtain ⟨cs, h1, _⟩ := h.out; exact h1.free i
theorem Pk.set {w : World} {b : Nat} {X : List Nat} (h : Pk w b X) (i : Nat) {r x : Nat} (hr : r < 2 * sgnW) (hx : cn r = x) : Pk (w.setCell ⟨b, i, none⟩ (.float .f64 r)) b (X.set i x) := by
 obtain ⟨cs, h1, h2, h3⟩ := h.out
 refine ⟨cs.set i (.float .f64 r), h1.set i _, by rw [List.length_set, List.length_set, h2], fun j v hj => ?_⟩
 rw [nthN_set]
 rw [List.getElem?_set] at hj
 by_cases e : i = j
 ·subst e
  by_cases hi : i < X.length
  ·rw [if_pos rfl, if_pos (by omega)] at hj
   cases hj
   rw [if_pos ⟨rfl, hi⟩]
   exact ⟨r, rfl, hr, hx⟩
  ·rw [if_pos rfl, if_neg (by omega)] at hj; cases hj
 ·rw [if_neg e] at hj
  rw [if_neg (fun q => e q.1)]
  exact h3 j v hj
theorem Pk.zero {w : World} {b n : Nat} (h : Blk w b 92 (List.replicate n (.float .f64 0))) : Pk w b (List.replicate n 0) :=
 ⟨_, h, by simp, fun j v hv => by
  rw [List.getElem?_replicate] at hv
  split at hv
  ·cases hv
   exact ⟨0, rfl, by decide, by simp [nthN, List.getD_eq_getElem?_getD, *, cn_zero]⟩
  ·cases hv⟩
theorem made2 (m : Nat) : madeCells #[.float .f64 0, .float .f64 0] (m * 2) = (List.replicate (m * 2) (Value.float .f64 0)).toArray := by
 apply Array.ext (by simp [size_madeCells])
 intro i h1 h2
 simp only [madeCells, Array.getElem_map, Array.getElem_range, List.getElem_toArray, List.getElem_replicate]
 rcases Nat.mod_two_eq_zero_or_one i with e | e <;> simp [e]
theorem wpList_mk2 {P : Program} (w : World) {ops : Array Oper} {rest : List Oper} {o : Oper} {a : Act} {Q : Exit → Act → World → Prop} (hP : P = Tryz.prog)
  (hg : o.guard = none) (l c : Operand) (hop : o.op = Op.makeSlice 90 l c)
  (n : Nat) (hl : a.eval l = .int .i64 (n : Int)) (hc : a.eval c = .int .i64 (n : Int)) (hm : n ≤ 100000)
  (hK : ∀ w', Blk w' w.heap.size 92 (List.replicate (n * 2) (.float .f64 0)) → Bel w w' → w'.heap.size = w.heap.size + 1 → wpList P ops Q rest (a.put o.dst (.slice (some ⟨w.heap.size, 0, none⟩) n n)) w') :
  wpList P ops Q (o :: rest) a w := by
 subst hP
 refine wpList_plain hg fun K hK' => ?_
 obtain ⟨i, hi, hzz⟩ := Option.map_eq_some_iff.1 infoP
 simp only [Prod.mk.injEq] at hzz
 obtain ⟨hz, hs, hb⟩ := hzz
 have hrun := run_make (P := Tryz.prog) w 90 92 i _ Tryz.underlying90 hi hz .i64 .i64 n n (by omega) (Int.le_refl _) (by rw [hb]; omega) (by omega)
 rw [hs] at hrun
 simp only [Int.toNat_natCast] at hrun
 rw [show (Value.agg #[.float .f64 0, .float .f64 0]).cells = #[.float .f64 0, .float .f64 0] from by kernel_rfl, made2] at hrun
 unfold Oper.wp
 simp [execOp, hop, hl, hc, hrun, Result.andThen]
 exact hK' _ _ (hK _ (Blk.new _ _ _) ((Bel.refl w).alloc _) (by simp))
def two (f : Nat → Nat × Nat) (j : Nat) : Nat := if j % 2 = 0 then (f (j / 2)).1 else (f (j / 2)).2
theorem dRowP {m bq bmc bm : Nat} {mi : Int} (W0 : World) (f : Nat → Nat × Nat) (hmi : mi = (m : Int)) (hm : m ≤ 100000) (M0 : Mp W0 bm 0)
  (hmade : ∀ k, k < m → ∀ w n, Gr bm W0 w → Mp w bm n → n < 1000000 → Calls Tryz.prog 68 #[.int .i64 (k : Int), .pointer (some ⟨bq, 0, none⟩), .pointer (some ⟨bmc, 0, none⟩)] w (MakesC w bm (n + 1) (f k))) :
  Calls Tryz.prog 67 #[.int .i64 mi, .func (.func 68) #[] #[.pointer (some ⟨bq, 0, none⟩), .pointer (some ⟨bmc, 0, none⟩)]] W0
   fun e w' => ∃ b, e = .returned (.slice (some ⟨b, 0, none⟩) m m) ∧ Pk w' b ((List.range (m * 2)).map (two f)) ∧ W0.heap.size ≤ b ∧ Mp w' bm m ∧ Gr bm W0 w' := by
 subst hmi
 have MA := Ho.mk hmade
 have M1 := Ho.mk M0
 have hbm := M0.lt
 clear hmade M0
 go_enter Tryz.func67, Tryz.ntmps67
 go_wp2_with (at_make; refine wpList_mk2 _ rfl rfl _ _ rfl m rfl rfl hm ?_; intro w1 hk1 hl1 hs1)
 obtain ⟨bo, hbo⟩ : ∃ bo, bo = W0.heap.size := ⟨_, rfl⟩
 rw [← hbo] at hk1 hs1 hbm ⊢
 have HK1 := Ho.mk (Pk.zero hk1)
 have HL1 := Ho.mk hl1
 have HBO := Ho.mk hbo
 clear hk1 hl1 hs1 hbo
 go_loopw [11] (fun v wr => ∃ (i : Nat), i ≤ m ∧ v = .int .i64 i ∧ Ho (Pk wr bo (upRow (two f) (m * 2) (i * 2))) ∧ Ho (Mp wr bm i) ∧ Ho (Gr bm W0 wr)) (fun v _ => m - (intOf v).toNat)
 case atStart => exact ⟨0, Nat.zero_le _, rfl, ⟨by rw [Nat.zero_mul, upRow_zero]; exact HK1.out⟩, ⟨M1.out.bel HL1.out⟩, ⟨HL1.out.gr bm⟩⟩
 case round =>
  obtain ⟨i, hi, rfl, FK, MP, HW⟩ := hrel
  rcases Nat.lt_or_ge i m with hlt | hge
  ·have hl2 : i * 2 < (upRow (two f) (m * 2) (i * 2)).length := by rw [upRow_len]; omega
   have hl3 : i * 2 + 1 < (upRow (two f) (m * 2) (i * 2)).length := by rw [upRow_len]; omega
   have hne : ¬ bo = bm := by omega
   --@@
   go_wp2_with (first | (go_at_call 68; (with_reducible refine (MA.out i hlt _ i HW.out MP.out (by omega)).mono ?_); rintro e w5 ⟨r, s, rfl, r1, s1, r2, s2, m5, g5⟩; have FB := Ho.mk (FK.out.gr g5 hne); obtain ⟨r0, y0, _, _⟩ := FB.out.at_ hl2; have y1 := FB.out.free (i * 2); obtain ⟨s0, z0, _, _⟩ := FB.out.at_ hl3; have z1 := FB.out.free (i * 2 + 1)) | fail)
   go_roundw
   case rel =>
    have hk := (FB.out.set (i * 2) r1 (r2.trans (show (f i).1 = two f (i * 2) by simp [two]))).set (i * 2 + 1) s1 (s2.trans (show (f i).2 = two f (i * 2 + 1) by simp [two]; rw [show (i * 2 + 1) / 2 = i from by omega]))
    rw [upRow_set _ _ _ (by omega), upRow_set _ _ _ (by omega)] at hk
    exact ⟨i + 1, by omega, by simp, ⟨by rw [show (i + 1) * 2 = i * 2 + 1 + 1 from by omega]; exact hk⟩, ⟨Mp.far (Mp.far m5 (by dsimp only; omega) _) (by dsimp only; omega) _⟩, ⟨((HW.out.trans g5).setNew (by have := HBO.out; dsimp only; omega) _).setNew (by have := HBO.out; dsimp only; omega) _⟩⟩
   case measure => simp [intOf]; omega
  ·obtain rfl : i = m := by omega
   rw [upRow_all] at FK
   go_wp2
   go_ret
   exact ⟨bo, rfl, FK.out, by have := HBO.out; omega, MP.out, HW.out⟩
end S5
namespace S6
open Ieee Go Go.RowKit Go.Proofs Go.Proofs.YtalbgklfhabnkaaGreatDoor Ow Pl Dp Dt Gp F1 I0 T1 U0 U1 W0 S1 S2 S3 S4 S5
attribute [local go_sem ↓] Go.wp_at_zero Go.wp_at_succ
@[go_sem] theorem run_makeMapS {P : Program} (t : TypeId) (w : World) : (Instr.makeMap t none).run P w = .ok (.map (some w.heap.size)) (w.alloc (.map #[] 0)) := rfl
theorem resV {fn : Func} {p : Tmp} {tmps : Array Value} {w : World} {b : Nat} {v0 v1 : Value} (hf : fn.results = #[.cell p 46]) (hp : tmps.getD p undef = .pointer (some ⟨b, 0, none⟩)) (h : Blk w b 46 [v0, v1]) :
  (results fn tmps).run Tryz.prog w = .ok (.agg #[v0, v1]) w := by
 obtain ⟨y0, y1⟩ := h.c2
 have hp2 := hp
 rw [Array.getD_eq_getD_getElem?] at hp2
 simp [results, hf, hp2, go_sem, y0, y1]
theorem nth_two (f : Nat → Nat × Nat) {m k : Nat} (h : k < m) : nthN ((List.range (m * 2)).map (two f)) (k * 2) = (f k).1 ∧ nthN ((List.range (m * 2)).map (two f)) (k * 2 + 1) = (f k).2 := by
 constructor
 ·rw [nthN_lt (by simp; omega)]; simp [two]
 ·rw [nthN_lt (by simp; omega)]; simp [two]; rw [show (k * 2 + 1) / 2 = k from by omega]
theorem dTab2 {k m b bl : Nat} {X : List Nat} (w : World) (hk : k < m) (hm : m ≤ 100000) (KL : Blk w bl 90 [.slice (some ⟨b, 0, none⟩) m m]) (PK : Pk w b X) (hX : X.length = m * 2) :
  Calls Tryz.prog 71 #[.int .i64 (k : Int), .pointer (some ⟨bl, 0, none⟩)] w (TellsC w (nthN X (k * 2))) := by
 obtain ⟨r, y1, r1, r2⟩ := PK.at_ (i := k * 2) (by omega)
 have R1 := Ho.mk r1
 have R2 := Ho.mk r2
 have y0 := KL.cell (i := 0) rfl
 clear KL PK r1 r2
 go_enter Tryz.func71, Tryz.ntmps71
 go_wp2
 go_ret
 exact ⟨r, rfl, R1.out, R2.out, Bel.refl _⟩
theorem dTab3 {k m b bl : Nat} {X : List Nat} (w : World) (hk : k < m) (hm : m ≤ 100000) (KL : Blk w bl 90 [.slice (some ⟨b, 0, none⟩) m m]) (PK : Pk w b X) (hX : X.length = m * 2) :
  Calls Tryz.prog 72 #[.int .i64 (k : Int), .pointer (some ⟨bl, 0, none⟩)] w (TellsC w (nthN X (k * 2 + 1))) := by
 obtain ⟨r, y1, r1, r2⟩ := PK.at_ (i := k * 2 + 1) (by omega)
 have R1 := Ho.mk r1
 have R2 := Ho.mk r2
 have y0 := KL.cell (i := 0) rfl
 clear KL PK r1 r2
 go_enter Tryz.func72, Tryz.ntmps72
 go_wp2
 go_ret
 exact ⟨r, rfl, R1.out, R2.out, Bel.refl _⟩
theorem dTab1 {q k n bq bmc bm : Nat} {qi : Int} (w : World) (T : Tab w) (KQ : Blk w bq 3 [.int .i64 qi]) (KM : Blk w bmc 89 [.map (some bm)]) (M0 : Mp w bm n) (hn : n < 1000000) (hq : (q : Int) = qi) (hq9 : q ≤ 9) (hb2 : ¬ 1 = bm) :
  Calls Tryz.prog 68 #[.int .i64 (k : Int), .pointer (some ⟨bq, 0, none⟩), .pointer (some ⟨bmc, 0, none⟩)] w (MakesC w bm (n + 1) (tabW q k)) := by
 have OF := Ho.mk (fun W T M => dTOf (k := (k : Int)) (s := splitT k q) (n := n) (bm := bm) W T M hb2 hn rfl hq hq9 rfl)
 have TT := Ho.mk T
 have M1 := Ho.mk M0
 have hbm := M0.lt
 have KQ1 := Ho.mk (KQ.old (.cells #[.float .f64 0, .float .f64 0] 92))
 have KM1 := Ho.mk (KM.old (.cells #[.float .f64 0, .float .f64 0] 92))
 have KR := Ho.mk (Blk.new w [.float .f64 0, .float .f64 0] 92)
 have g0 := Ho.mk ((Bel.refl w).alloc (.cells #[.float .f64 0, .float .f64 0] 92))
 clear T M0 KQ KM
 go_enter Tryz.func68, Tryz.ntmps68
 have y0 := KQ1.out.cell (i := 0) rfl
 have y1 := KM1.out.cell (i := 0) rfl
 go_wp2_with fail
 have hS : (w.alloc (.cells #[.float .f64 0, .float .f64 0] 92)).heap.size = w.heap.size + 1 := by simp only [World.size_alloc]
 generalize w.alloc (.cells #[.float .f64 0, .float .f64 0] 92) = W1 at *
 (with_reducible refine (OF.out _ (TT.out.bel g0.out) (M1.out.bel g0.out)).mono ?_); rintro e w5 ⟨r, s, rfl, r1, s1, r2, s2, m5, g5⟩
 have KRb := Ho.mk (g5.blk KR.out (by omega))
 have x0 := KRb.out.cell (i := 0) rfl
 have v0 := KRb.out.free 0
 have x1 := KRb.out.cell (i := 1) rfl
 have v1 := KRb.out.free 1
 have GG := Ho.mk ((g0.out.gr bm).trans g5)
 have M5 := Ho.mk m5
 have HH := Ho.mk (And.intro r1 (And.intro s1 (And.intro r2 s2)))
 clear r1 s1 r2 s2 m5 g5 y0 y1
 go_wp2
 exact bodyPost_ret (res2f (fn := Tryz.f68) rfl rfl ((KRb.out.set 0 (.float .f64 r)).set 1 (.float .f64 s))) rfl ⟨r, s, rfl, HH.out.1, HH.out.2.1, HH.out.2.2.1, HH.out.2.2.2, (Mp.far (Mp.far M5.out (p := ⟨w.heap.size, 0, none⟩) (by dsimp only; omega) (.float .f64 r)) (p := ⟨w.heap.size, 1, none⟩) (by dsimp only; omega) (.float .f64 s)), ((GG.out.setNew (p := ⟨w.heap.size, 0, none⟩) (by dsimp only; omega) (.float .f64 r)).setNew (p := ⟨w.heap.size, 1, none⟩) (by dsimp only; omega) (.float .f64 s))⟩
theorem dTable {q m : Nat} {qi mi : Int} (W0 : World) (T : Tab W0) (hq : (q : Int) = qi) (hq9 : q ≤ 9) (hmi : mi = (m : Int)) (hm : m ≤ 100000) :
  Calls Tryz.prog 38 #[.int .i64 qi, .int .i64 mi] W0
   fun e w' => ∃ b c, e = .returned (.agg #[.slice (some ⟨b, 0, none⟩) m m, .slice (some ⟨c, 0, none⟩) m m]) ∧ Fk w' b ((List.range m).map fun k => (tabW q k).1) ∧ Fk w' c ((List.range m).map fun k => (tabW q k).2) ∧ W0.heap.size ≤ b ∧ b < c ∧ Bel W0 w' := by
 subst hmi
 have T1 := Ho.mk (fun (k n bq bmc bm : Nat) w T KQ KM M0 hn hb2 => dTab1 (q := q) (k := k) (n := n) (bq := bq) (bmc := bmc) (bm := bm) (qi := qi) w T KQ KM M0 hn hq hq9 hb2)
 have TT := Ho.mk T
 have h2 := I4.Tab.lt T
 clear T hq
 go_enter Tryz.func38, Tryz.ntmps38
 go_upto_region 2 with fail
 have KQ := Ho.mk ((((Blk.new W0 [.int .i64 qi] 3).old (.cells #[.slice none 0 0, .slice none 0 0] 46)).old (.map #[] 0)).old (.cells #[.map (some (W0.heap.size + 1 + 1))] 89))
 have KV := Ho.mk (((Blk.new (W0.alloc (.cells #[.int .i64 qi] 3)) [.slice none 0 0, .slice none 0 0] 46).old (.map #[] 0)).old (.cells #[.map (some (W0.heap.size + 1 + 1))] 89))
 have KM := Ho.mk (Blk.new (((W0.alloc (.cells #[.int .i64 qi] 3)).alloc (.cells #[.slice none 0 0, .slice none 0 0] 46)).alloc (.map #[] 0)) [.map (some (W0.heap.size + 1 + 1))] 89)
 have M0 := Ho.mk ((Mp.made ((W0.alloc (.cells #[.int .i64 qi] 3)).alloc (.cells #[.slice none 0 0, .slice none 0 0] 46))).bel ((Bel.refl _).alloc (.cells #[.map (some (W0.heap.size + 1 + 1))] 89)))
 have g0 := Ho.mk (((((Bel.refl W0).alloc (.cells #[.int .i64 qi] 3)).alloc (.cells #[.slice none 0 0, .slice none 0 0] 46)).alloc (.map #[] 0)).alloc (.cells #[.map (some (W0.heap.size + 1 + 1))] 89))
 have hS : ((((W0.alloc (.cells #[.int .i64 qi] 3)).alloc (.cells #[.slice none 0 0, .slice none 0 0] 46)).alloc (.map #[] 0)).alloc (.cells #[.map (some (W0.heap.size + 1 + 1))] 89)).heap.size = W0.heap.size + 1 + 1 + 1 + 1 := by simp only [World.size_alloc]
 simp only [World.size_alloc] at KV KM M0
 generalize ((((W0.alloc (.cells #[.int .i64 qi] 3)).alloc (.cells #[.slice none 0 0, .slice none 0 0] 46)).alloc (.map #[] 0)).alloc (.cells #[.map (some (W0.heap.size + 1 + 1))] 89)) = W at *
 have RP := Ho.mk (fun W' (g : Bel W W') => dRowP (m := m) (bq := W0.heap.size) (bmc := W0.heap.size + 1 + 1 + 1) (bm := W0.heap.size + 1 + 1) W' (fun k => tabW q k) rfl hm (M0.out.bel g)
  (fun k hk w n gw mw hn => T1.out k n _ _ _ w (tab_gr (TT.out.bel (g0.out.trans g)) gw (by omega)) (gw.blk (KQ.out.bel g) (by omega)) (gw.blk (KM.out.bel g) (by omega)) mw hn (by omega)))
 go_wp2_with fail
 (with_reducible refine (RP.out _ (Bel.refl _)).mono ?_); rintro e w5 ⟨b, rfl, pk, lb, mp, gg⟩
 have KL := Ho.mk (Blk.new w5 [.slice (some ⟨b, 0, none⟩) m m] 90)
 have PK := Ho.mk (pk.bel ((Bel.refl w5).alloc (.cells #[.slice (some ⟨b, 0, none⟩) m m] 90)))
 have KV5 := Ho.mk ((gg.blk KV.out (by omega)).old (.cells #[.slice (some ⟨b, 0, none⟩) m m] 90))
 have BO := Ho.mk (show Bel W0 (w5.alloc (.cells #[.slice (some ⟨b, 0, none⟩) m m] 90)) from (gg.bel g0.out (by omega)).alloc _)
 have hs5 := gg.size
 clear pk mp gg KV KQ KM M0 RP T1 TT
 have RF := Ho.mk (fun W' (g : Bel (w5.alloc (.cells #[.slice (some ⟨b, 0, none⟩) m m] 90)) W') => dRowF (m := m) (fn := 71) (bl := w5.heap.size) W' (fun k => (tabW q k).1) rfl hm (.inl rfl)
  (fun k hk w gw => by have h := dTab2 w hk hm (KL.out.bel (g.trans gw)) (PK.out.bel (g.trans gw)) (by simp); rw [(nth_two (fun k => tabW q k) hk).1] at h; exact h))
 have RG := Ho.mk (fun W' (g : Bel (w5.alloc (.cells #[.slice (some ⟨b, 0, none⟩) m m] 90)) W') => dRowF (m := m) (fn := 72) (bl := w5.heap.size) W' (fun k => (tabW q k).2) rfl hm (.inr rfl)
  (fun k hk w gw => by have h := dTab3 w hk hm (KL.out.bel (g.trans gw)) (PK.out.bel (g.trans gw)) (by simp); rw [(nth_two (fun k => tabW q k) hk).2] at h; exact h))
 go_wp2_with fail
 (with_reducible refine (RF.out _ (Bel.refl _)).mono ?_); rintro e w6 ⟨b6, rfl, f6, l6, g6⟩
 go_wp2_with fail
 (with_reducible refine (RG.out _ g6).mono ?_); rintro e w7 ⟨b7, rfl, f7, l7, g7⟩
 have hs6 := f6.lt
 rw [World.size_alloc] at l6
 have hs7 := g7.size
 have KV7 := Ho.mk ((KV5.out.bel g6).bel g7)
 have F6 := Ho.mk (f6.bel g7)
 have F7 := Ho.mk f7
 have BO7 := Ho.mk ((BO.out.trans g6).trans g7)
 obtain ⟨y0, y1⟩ := KV7.out.c2
 have z0 := KV7.out.free 0
 have z1 := KV7.out.free 1
 clear RF RG KL PK KV5 BO f6 f7 g6 g7
 go_wp2
 exact bodyPost_ret (resV (fn := Tryz.f38) rfl rfl ((KV7.out.set 0 (.slice (some ⟨b6, 0, none⟩) m m)).set 1 (.slice (some ⟨b7, 0, none⟩) m m))) rfl
  ⟨b6, b7, rfl, (F6.out.far (p := ⟨W0.heap.size + 1, 0, none⟩) (by dsimp only; omega) _).far (p := ⟨W0.heap.size + 1, 1, none⟩) (by dsimp only; omega) _, (F7.out.far (p := ⟨W0.heap.size + 1, 0, none⟩) (by dsimp only; omega) _).far (p := ⟨W0.heap.size + 1, 1, none⟩) (by dsimp only; omega) _, by omega, by omega,
   ⟨(BO7.out.out.setCell (p := ⟨W0.heap.size + 1, 0, none⟩) (by dsimp only; omega) _).setCell (p := ⟨W0.heap.size + 1, 1, none⟩) (by dsimp only; omega) _⟩⟩
end S6
namespace P0
open Ieee Go Go.RowKit Go.Proofs Go.Proofs.YtalbgklfhabnkaaGreatDoor Ow Pl Gp F1 I0 W0 S3 S4
attribute [local go_sem ↓] Go.wp_at_zero Go.wp_at_succ
theorem dOAdd {a b : Nat} (w : World) (ha : a < 2 * sgnW) (hb : b < 2 * sgnW) :
  Calls Tryz.prog 41 #[.float .f64 a, .float .f64 b] w (TellsC w (fadd (cn a) (cn b))) := by
 obtain ⟨r, w', hr, hw, r1, r2⟩ := run_fadd (P := Tryz.prog) 22 ha hb w
 have HB := Ho.mk (drew_bel w hw)
 have R := Ho.mk (And.intro r1 r2)
 clear ha hb hw r1 r2
 go_enter Tryz.func41, Tryz.ntmps41
 go_wp2_with (simp only [hr])
 go_ret
 exact ⟨r, rfl, R.out.1, R.out.2, HB.out⟩
theorem dOSub {a b : Nat} (w : World) (ha : a < 2 * sgnW) (hb : b < 2 * sgnW) :
  Calls Tryz.prog 42 #[.float .f64 a, .float .f64 b] w (TellsC w (fsub (cn a) (cn b))) := by
 obtain ⟨r, w', hr, hw, r1, r2⟩ := run_fsub (P := Tryz.prog) 22 ha hb w
 have HB := Ho.mk (drew_bel w hw)
 have R := Ho.mk (And.intro r1 r2)
 clear ha hb hw r1 r2
 go_enter Tryz.func42, Tryz.ntmps42
 go_wp2_with (simp only [hr])
 go_ret
 exact ⟨r, rfl, R.out.1, R.out.2, HB.out⟩
theorem dOMul {a b : Nat} (w : World) (ha : a < 2 * sgnW) (hb : b < 2 * sgnW) :
  Calls Tryz.prog 85 #[.float .f64 a, .float .f64 b] w (TellsC w (fmul (cn a) (cn b))) := by
 obtain ⟨r, w', hr, hw, r1, r2⟩ := run_fmul (P := Tryz.prog) 22 ha hb w
 have HB := Ho.mk (drew_bel w hw)
 have R := Ho.mk (And.intro r1 r2)
 clear ha hb hw r1 r2
 go_enter Tryz.func85, Tryz.ntmps85
 go_wp2_with (simp only [hr])
 go_ret
 exact ⟨r, rfl, R.out.1, R.out.2, HB.out⟩
def Tells2 (W0 : World) (p : Nat × Nat) (e : Ending) (w' : World) : Prop := ∃ r s, e = .returned (.tuple #[.float .f64 r, .float .f64 s]) ∧ (r < 2 * sgnW ∧ s < 2 * sgnW) ∧ (cn r = p.1 ∧ cn s = p.2) ∧ Bel W0 w'
def TellsP (W0 : World) (p : Nat × Nat) (e : Ending) (w' : World) : Prop := ∃ r s, e = .returned (.agg #[.float .f64 r, .float .f64 s]) ∧ (r < 2 * sgnW ∧ s < 2 * sgnW) ∧ (cn r = p.1 ∧ cn s = p.2) ∧ Bel W0 w'
theorem half_lt : (4602678819172646912 : Nat) < 2 * sgnW := by decide
theorem dHalf {a b : Nat} (w : World) (ha : a < 2 * sgnW) (hb : b < 2 * sgnW) :
  Calls Tryz.prog 75 #[.float .f64 a, .float .f64 b] w (Tells2 w (fmul (cn a) (cn 4602678819172646912), fmul (cn b) (cn 4602678819172646912))) := by
 have M1 := Ho.mk (fun w => dOMul w ha half_lt)
 have M2 := Ho.mk (fun w => dOMul w hb half_lt)
 clear ha hb
 go_enter Tryz.func75, Tryz.ntmps75
 go_wp2_with fail
 (with_reducible refine (M1.out _).mono ?_); rintro e w1 ⟨r, rfl, r1, r2, b1⟩
 go_wp2_with fail
 (with_reducible refine (M2.out _).mono ?_); rintro e w2 ⟨s, rfl, s1, s2, b2⟩
 go_wp2
 go_ret2
 exact ⟨r, s, rfl, ⟨r1, s1⟩, ⟨r2, s2⟩, b1.trans b2⟩
theorem resP {fn : Func} {p : Tmp} {tmps : Array Value} {w : World} {b : Nat} {v0 v1 : Value} (hf : fn.results = #[.cell p 107]) (hp : tmps.getD p undef = .pointer (some ⟨b, 0, none⟩)) (h : Blk w b 107 [v0, v1]) :
  (results fn tmps).run Tryz.prog w = .ok (.agg #[v0, v1]) w := by
 obtain ⟨y0, y1⟩ := h.c2
 have hp2 := hp
 rw [Array.getD_eq_getD_getElem?] at hp2
 simp [results, hf, hp2, go_sem, y0, y1]
theorem dEach {a b c d fn : Nat} {op : Nat → Nat → Nat} (w : World) (ha : a < 2 * sgnW) (hb : b < 2 * sgnW) (hc : c < 2 * sgnW) (hd : d < 2 * sgnW) (hfn : (fn = 41 ∧ op = fadd) ∨ (fn = 42 ∧ op = fsub)) :
  Calls Tryz.prog 153 #[.agg #[.float .f64 a, .float .f64 b], .agg #[.float .f64 c, .float .f64 d], .func (.func fn) #[] #[]] w (TellsP w (op (cn a) (cn c), op (cn b) (cn d))) := by
 have F1 : Ho (∀ w, Calls Tryz.prog fn #[.float .f64 a, .float .f64 c] w (TellsC w (op (cn a) (cn c)))) := ⟨fun w => by rcases hfn with ⟨rfl, rfl⟩ | ⟨rfl, rfl⟩ <;> first | exact dOAdd w ha hc | exact dOSub w ha hc⟩
 have F2 : Ho (∀ w, Calls Tryz.prog fn #[.float .f64 b, .float .f64 d] w (TellsC w (op (cn b) (cn d)))) := ⟨fun w => by rcases hfn with ⟨rfl, rfl⟩ | ⟨rfl, rfl⟩ <;> first | exact dOAdd w hb hd | exact dOSub w hb hd⟩
 clear ha hb hc hd
 rcases hfn with ⟨rfl, _⟩ | ⟨rfl, _⟩
 all_goals
  go_enter Tryz.func153, Tryz.ntmps153
  go_wp2_with fail
  have KP := Ho.mk (((Blk.new w [.float .f64 a, .float .f64 b] 107).old (.cells #[.float .f64 c, .float .f64 d] 107)).old (.cells #[.float .f64 0, .float .f64 0] 107))
  have KQ := Ho.mk ((Blk.new (w.alloc (.cells #[.float .f64 a, .float .f64 b] 107)) [.float .f64 c, .float .f64 d] 107).old (.cells #[.float .f64 0, .float .f64 0] 107))
  rw [World.size_alloc] at KQ
  have KR := Ho.mk (Blk.new ((w.alloc (.cells #[.float .f64 a, .float .f64 b] 107)).alloc (.cells #[.float .f64 c, .float .f64 d] 107)) [.float .f64 0, .float .f64 0] 107)
  rw [World.size_alloc, World.size_alloc] at KR
  have g0 := Ho.mk ((((Bel.refl w).alloc (.cells #[.float .f64 a, .float .f64 b] 107)).alloc (.cells #[.float .f64 c, .float .f64 d] 107)).alloc (.cells #[.float .f64 0, .float .f64 0] 107))
  have hS : (((w.alloc (.cells #[.float .f64 a, .float .f64 b] 107)).alloc (.cells #[.float .f64 c, .float .f64 d] 107)).alloc (.cells #[.float .f64 0, .float .f64 0] 107)).heap.size = w.heap.size + 1 + 1 + 1 := by simp only [World.size_alloc]
  generalize (((w.alloc (.cells #[.float .f64 a, .float .f64 b] 107)).alloc (.cells #[.float .f64 c, .float .f64 d] 107)).alloc (.cells #[.float .f64 0, .float .f64 0] 107)) = W at *
  obtain ⟨y0, y1⟩ := KP.out.c2
  obtain ⟨y2, y3⟩ := KQ.out.c2
  refine I7.wp_region_late 13 (S := fun w' => Bel W w') (by kernel_rfl) (Bel.refl _).drew (fun hHeld => ?_)
  (try dsimp only at hHeld)
  refine I7.kt (i := 0) hHeld ?_
  refine I7.kt (i := 1) hHeld ?_
  refine I7.kl (i := 2) (v := ?_) hHeld (fun w hSw => ?_) ?_
  rotate_left
  ·(have z0 := hSw.cell y0; go_simp; try (with_reducible rfl))
  refine I7.kt (i := 3) hHeld ?_
  refine I7.kl (i := 4) (v := ?_) hHeld (fun w hSw => ?_) ?_
  rotate_left
  ·(have z0 := hSw.cell y2; go_simp; try (with_reducible rfl))
  refine I7.kt (i := 6) hHeld ?_
  refine I7.kt (i := 7) hHeld ?_
  refine I7.kl (i := 8) (v := ?_) hHeld (fun w hSw => ?_) ?_
  rotate_left
  ·(have z0 := hSw.cell y1; go_simp; try (with_reducible rfl))
  refine I7.kt (i := 9) hHeld ?_
  refine I7.kl (i := 10) (v := ?_) hHeld (fun w hSw => ?_) ?_
  rotate_left
  ·(have z0 := hSw.cell y3; go_simp; try (with_reducible rfl))
  try simp only [Act.put, Ow.zS, Ow.zC, Ow.zD]
  refine I7.kc (i := 5) (fun K hK => ?_)
  go_simp
  (first | go_at_call 41 | go_at_call 42)
  (with_reducible refine (F1.out _).mono ?_); rintro e w5 ⟨r5, rfl, l5, c5, b5⟩
  try go_wp2_with fail
  refine hK.out _ _ (Bel.trans hHeld b5) (fun hHeld => ?_)
  clear hK K
  try simp only [Act.put, Ow.zS, Ow.zC, Ow.zD]
  refine I7.kc (i := 11) (fun K hK => ?_)
  go_simp
  (first | go_at_call 41 | go_at_call 42)
  (with_reducible refine (F2.out _).mono ?_); rintro e w6 ⟨r6, rfl, l6, c6, b6⟩
  try go_wp2_with fail
  refine hK.out _ _ (Bel.trans hHeld b6) (fun hHeld => ?_)
  clear hK K
  refine I7.kt (i := 12) hHeld ?_
  have KR := Ho.mk (KR.out.bel hHeld)
  have g2 := Ho.mk (g0.out.trans hHeld)
  clear y0 y1 y2 y3 hHeld
  obtain ⟨y0, y1⟩ := KR.out.c2
  have z0 := KR.out.free 0
  have z1 := KR.out.free 1
  try simp only [Act.put, Ow.zS, Ow.zC, Ow.zD]
  refine I7.ke (i := 13) (fun K hK => ?_)
  go_simp
  refine hK.out _ _ ?_
  clear hK K
  try simp only [Act.put, Ow.zS, Ow.zC, Ow.zD]
  refine wpAny_done (by kernel_rfl) ?_ _
  go_wp2
  exact bodyPost_ret (resP (fn := Tryz.f153) rfl rfl ((KR.out.set 0 (.float .f64 r5)).set 1 (.float .f64 r6))) rfl ⟨r5, r6, rfl, ⟨l5, l6⟩, ⟨c5, c6⟩, ⟨(g2.out.out.setCell (p := ⟨w.heap.size + 1 + 1, 0, none⟩) (by dsimp only; omega) _).setCell (p := ⟨w.heap.size + 1 + 1, 1, none⟩) (by dsimp only; omega) _⟩⟩
theorem dPAdd {a b c d : Nat} (w : World) (ha : a < 2 * sgnW) (hb : b < 2 * sgnW) (hc : c < 2 * sgnW) (hd : d < 2 * sgnW) :
  Calls Tryz.prog 141 #[.agg #[.float .f64 a, .float .f64 b], .agg #[.float .f64 c, .float .f64 d]] w (TellsP w (fadd (cn a) (cn c), fadd (cn b) (cn d))) := by
 have EA := Ho.mk (fun w => dEach (fn := 41) (op := fadd) w ha hb hc hd (.inl ⟨rfl, rfl⟩))
 clear ha hb hc hd
 go_enter Tryz.func141, Tryz.ntmps141
 have hu1 : ∀ h, h ≠ h + 1 := fun h => by omega
 have KP := Ho.mk (((Blk.new w [.float .f64 a, .float .f64 b] 107).old (.cells #[.float .f64 c, .float .f64 d] 107)).old (.cells #[.float .f64 0, .float .f64 0] 107))
 have KQ := Ho.mk ((Blk.new (w.alloc (.cells #[.float .f64 a, .float .f64 b] 107)) [.float .f64 c, .float .f64 d] 107).old (.cells #[.float .f64 0, .float .f64 0] 107))
 rw [World.size_alloc] at KQ
 have KR := Ho.mk (Blk.new ((w.alloc (.cells #[.float .f64 a, .float .f64 b] 107)).alloc (.cells #[.float .f64 c, .float .f64 d] 107)) [.float .f64 0, .float .f64 0] 107)
 rw [World.size_alloc, World.size_alloc] at KR
 have g0 := Ho.mk ((((Bel.refl w).alloc (.cells #[.float .f64 a, .float .f64 b] 107)).alloc (.cells #[.float .f64 c, .float .f64 d] 107)).alloc (.cells #[.float .f64 0, .float .f64 0] 107))
 have hS : (((w.alloc (.cells #[.float .f64 a, .float .f64 b] 107)).alloc (.cells #[.float .f64 c, .float .f64 d] 107)).alloc (.cells #[.float .f64 0, .float .f64 0] 107)).heap.size = w.heap.size + 1 + 1 + 1 := by simp only [World.size_alloc]
 go_upto_region 1 with fail
 generalize (((w.alloc (.cells #[.float .f64 a, .float .f64 b] 107)).alloc (.cells #[.float .f64 c, .float .f64 d] 107)).alloc (.cells #[.float .f64 0, .float .f64 0] 107)) = W at *
 obtain ⟨x0, x1⟩ := KP.out.c2
 obtain ⟨y0, y1⟩ := KQ.out.c2
 go_wp2_with fail
 (with_reducible refine (EA.out _).mono ?_); rintro e w5 ⟨r, s, rfl, l5, c5, b5⟩
 have KR := Ho.mk (KR.out.bel b5)
 have g2 := Ho.mk (g0.out.trans b5)
 clear x0 x1 y0 y1 b5
 obtain ⟨y0, y1⟩ := KR.out.c2
 have z0 := KR.out.free 0
 have z1 := KR.out.free 1
 go_wp2
 exact bodyPost_ret (resP (fn := Tryz.f141) rfl rfl ((KR.out.set 0 (.float .f64 r)).set 1 (.float .f64 s))) rfl ⟨r, s, rfl, l5, c5, ⟨(g2.out.out.setCell (p := ⟨w.heap.size + 1 + 1, 0, none⟩) (by dsimp only; omega) _).setCell (p := ⟨w.heap.size + 1 + 1, 1, none⟩) (by dsimp only; omega) _⟩⟩
theorem dPSub {a b c d : Nat} (w : World) (ha : a < 2 * sgnW) (hb : b < 2 * sgnW) (hc : c < 2 * sgnW) (hd : d < 2 * sgnW) :
  Calls Tryz.prog 142 #[.agg #[.float .f64 a, .float .f64 b], .agg #[.float .f64 c, .float .f64 d]] w (TellsP w (fsub (cn a) (cn c), fsub (cn b) (cn d))) := by
 have EA := Ho.mk (fun w => dEach (fn := 42) (op := fsub) w ha hb hc hd (.inr ⟨rfl, rfl⟩))
 clear ha hb hc hd
 go_enter Tryz.func142, Tryz.ntmps142
 have hu1 : ∀ h, h ≠ h + 1 := fun h => by omega
 have KP := Ho.mk (((Blk.new w [.float .f64 a, .float .f64 b] 107).old (.cells #[.float .f64 c, .float .f64 d] 107)).old (.cells #[.float .f64 0, .float .f64 0] 107))
 have KQ := Ho.mk ((Blk.new (w.alloc (.cells #[.float .f64 a, .float .f64 b] 107)) [.float .f64 c, .float .f64 d] 107).old (.cells #[.float .f64 0, .float .f64 0] 107))
 rw [World.size_alloc] at KQ
 have KR := Ho.mk (Blk.new ((w.alloc (.cells #[.float .f64 a, .float .f64 b] 107)).alloc (.cells #[.float .f64 c, .float .f64 d] 107)) [.float .f64 0, .float .f64 0] 107)
 rw [World.size_alloc, World.size_alloc] at KR
 have g0 := Ho.mk ((((Bel.refl w).alloc (.cells #[.float .f64 a, .float .f64 b] 107)).alloc (.cells #[.float .f64 c, .float .f64 d] 107)).alloc (.cells #[.float .f64 0, .float .f64 0] 107))
 have hS : (((w.alloc (.cells #[.float .f64 a, .float .f64 b] 107)).alloc (.cells #[.float .f64 c, .float .f64 d] 107)).alloc (.cells #[.float .f64 0, .float .f64 0] 107)).heap.size = w.heap.size + 1 + 1 + 1 := by simp only [World.size_alloc]
 go_upto_region 1 with fail
 generalize (((w.alloc (.cells #[.float .f64 a, .float .f64 b] 107)).alloc (.cells #[.float .f64 c, .float .f64 d] 107)).alloc (.cells #[.float .f64 0, .float .f64 0] 107)) = W at *
 obtain ⟨x0, x1⟩ := KP.out.c2
 obtain ⟨y0, y1⟩ := KQ.out.c2
 go_wp2_with fail
 (with_reducible refine (EA.out _).mono ?_); rintro e w5 ⟨r, s, rfl, l5, c5, b5⟩
 have KR := Ho.mk (KR.out.bel b5)
 have g2 := Ho.mk (g0.out.trans b5)
 clear x0 x1 y0 y1 b5
 obtain ⟨y0, y1⟩ := KR.out.c2
 have z0 := KR.out.free 0
 have z1 := KR.out.free 1
 go_wp2
 exact bodyPost_ret (resP (fn := Tryz.f142) rfl rfl ((KR.out.set 0 (.float .f64 r)).set 1 (.float .f64 s))) rfl ⟨r, s, rfl, l5, c5, ⟨(g2.out.out.setCell (p := ⟨w.heap.size + 1 + 1, 0, none⟩) (by dsimp only; omega) _).setCell (p := ⟨w.heap.size + 1 + 1, 1, none⟩) (by dsimp only; omega) _⟩⟩
end P0
namespace P1
open Ieee Go Go.RowKit Go.Proofs Go.Proofs.YtalbgklfhabnkaaGreatDoor Ow Pl Gp F1 I0 W0 S3 S4 P0
attribute [local go_sem ↓] Go.wp_at_zero Go.wp_at_succ
theorem resPP {fn : Func} {p q : Tmp} {tmps : Array Value} {w : World} {b b' : Nat} {v0 v1 u0 u1 : Value} (hf : fn.results = #[.cell p 107, .cell q 107]) (hp : tmps.getD p undef = .pointer (some ⟨b, 0, none⟩)) (hq : tmps.getD q undef = .pointer (some ⟨b', 0, none⟩)) (h : Blk w b 107 [v0, v1]) (h' : Blk w b' 107 [u0, u1]) :
  (results fn tmps).run Tryz.prog w = .ok (.tuple #[.agg #[v0, v1], .agg #[u0, u1]]) w := by
 obtain ⟨y0, y1⟩ := h.c2
 obtain ⟨x0, x1⟩ := h'.c2
 have hp2 := hp
 have hq2 := hq
 rw [Array.getD_eq_getD_getElem?] at hp2 hq2
 simp [results, hf, hp2, hq2, go_sem, y0, y1, x0, x1]
def TellsBy (W0 : World) (a b c d : Nat) (e : Ending) (w' : World) : Prop :=
 ∃ r s t u, e = .returned (.tuple #[.agg #[.float .f64 r, .float .f64 s], .agg #[.float .f64 t, .float .f64 u]]) ∧ ((r < 2 * sgnW ∧ s < 2 * sgnW) ∧ (t < 2 * sgnW ∧ u < 2 * sgnW)) ∧ ((cn r = fmul a c ∧ cn s = fmul a d) ∧ (cn t = fmul b d ∧ cn u = fmul b c)) ∧ Bel W0 w'
theorem dBy {a b c d : Nat} (w : World) (ha : a < 2 * sgnW) (hb : b < 2 * sgnW) (hc : c < 2 * sgnW) (hd : d < 2 * sgnW) :
  Calls Tryz.prog 107 #[.agg #[.float .f64 a, .float .f64 b], .agg #[.float .f64 c, .float .f64 d]] w (TellsBy w (cn a) (cn b) (cn c) (cn d)) := by
 have F1 := Ho.mk (fun w => dOMul w ha hc)
 have F2 := Ho.mk (fun w => dOMul w ha hd)
 have F3 := Ho.mk (fun w => dOMul w hb hd)
 have F4 := Ho.mk (fun w => dOMul w hb hc)
 clear ha hb hc hd
 go_enter Tryz.func107, Tryz.ntmps107
 go_wp2_with fail
 have KP := Ho.mk ((((Blk.new w [.float .f64 a, .float .f64 b] 107).old (.cells #[.float .f64 c, .float .f64 d] 107)).old (.cells #[.float .f64 0, .float .f64 0] 107)).old (.cells #[.float .f64 0, .float .f64 0] 107))
 have KQ := Ho.mk (((Blk.new (w.alloc (.cells #[.float .f64 a, .float .f64 b] 107)) [.float .f64 c, .float .f64 d] 107).old (.cells #[.float .f64 0, .float .f64 0] 107)).old (.cells #[.float .f64 0, .float .f64 0] 107))
 rw [World.size_alloc] at KQ
 have KR := Ho.mk ((Blk.new ((w.alloc (.cells #[.float .f64 a, .float .f64 b] 107)).alloc (.cells #[.float .f64 c, .float .f64 d] 107)) [.float .f64 0, .float .f64 0] 107).old (.cells #[.float .f64 0, .float .f64 0] 107))
 rw [World.size_alloc, World.size_alloc] at KR
 have KS := Ho.mk (Blk.new (((w.alloc (.cells #[.float .f64 a, .float .f64 b] 107)).alloc (.cells #[.float .f64 c, .float .f64 d] 107)).alloc (.cells #[.float .f64 0, .float .f64 0] 107)) [.float .f64 0, .float .f64 0] 107)
 rw [World.size_alloc, World.size_alloc, World.size_alloc] at KS
 have g0 := Ho.mk (((((Bel.refl w).alloc (.cells #[.float .f64 a, .float .f64 b] 107)).alloc (.cells #[.float .f64 c, .float .f64 d] 107)).alloc (.cells #[.float .f64 0, .float .f64 0] 107)).alloc (.cells #[.float .f64 0, .float .f64 0] 107))
 have hS : ((((w.alloc (.cells #[.float .f64 a, .float .f64 b] 107)).alloc (.cells #[.float .f64 c, .float .f64 d] 107)).alloc (.cells #[.float .f64 0, .float .f64 0] 107)).alloc (.cells #[.float .f64 0, .float .f64 0] 107)).heap.size = w.heap.size + 1 + 1 + 1 + 1 := by simp only [World.size_alloc]
 generalize ((((w.alloc (.cells #[.float .f64 a, .float .f64 b] 107)).alloc (.cells #[.float .f64 c, .float .f64 d] 107)).alloc (.cells #[.float .f64 0, .float .f64 0] 107)).alloc (.cells #[.float .f64 0, .float .f64 0] 107)) = W at *
 refine wp_region_held_drew (S := fun w' => Blk w' (w.heap.size) 107 [.float .f64 a, .float .f64 b] ∧ Blk w' (w.heap.size + 1) 107 [.float .f64 c, .float .f64 d]) (by kernel_rfl) ⟨KP.out.bel (Bel.refl _).drew, KQ.out.bel (Bel.refl _).drew⟩ (fun hHeld => ?_)
 (try dsimp only at hHeld)
 refine rt (i := 0) hHeld ?_
 refine rl (i := 1) (v := ?_) hHeld (fun w hSw => ?_) ?_
 rotate_left
 ·(have z := hSw.1.cell (i := 0) rfl; go_simp; try (with_reducible rfl))
 refine rt (i := 2) hHeld ?_
 refine rl (i := 3) (v := ?_) hHeld (fun w hSw => ?_) ?_
 rotate_left
 ·(have z := hSw.2.cell (i := 0) rfl; go_simp; try (with_reducible rfl))
 refine rt (i := 5) hHeld ?_
 refine rl (i := 6) (v := ?_) hHeld (fun w hSw => ?_) ?_
 rotate_left
 ·(have z := hSw.1.cell (i := 0) rfl; go_simp; try (with_reducible rfl))
 refine rt (i := 7) hHeld ?_
 refine rl (i := 8) (v := ?_) hHeld (fun w hSw => ?_) ?_
 rotate_left
 ·(have z := hSw.2.cell (i := 1) rfl; go_simp; try (with_reducible rfl))
 refine rt (i := 11) hHeld ?_
 refine rl (i := 12) (v := ?_) hHeld (fun w hSw => ?_) ?_
 rotate_left
 ·(have z := hSw.1.cell (i := 1) rfl; go_simp; try (with_reducible rfl))
 refine rt (i := 13) hHeld ?_
 refine rl (i := 14) (v := ?_) hHeld (fun w hSw => ?_) ?_
 rotate_left
 ·(have z := hSw.2.cell (i := 1) rfl; go_simp; try (with_reducible rfl))
 refine rt (i := 16) hHeld ?_
 refine rl (i := 17) (v := ?_) hHeld (fun w hSw => ?_) ?_
 rotate_left
 ·(have z := hSw.1.cell (i := 1) rfl; go_simp; try (with_reducible rfl))
 refine rt (i := 18) hHeld ?_
 refine rl (i := 19) (v := ?_) hHeld (fun w hSw => ?_) ?_
 rotate_left
 ·(have z := hSw.2.cell (i := 0) rfl; go_simp; try (with_reducible rfl))
 try simp only [Act.put, Ow.zS, Ow.zC, Ow.zD]
 refine rc (i := 4) (fun K hK => ?_)
 go_simp
 go_at_call 85
 (with_reducible refine (F1.out _).mono ?_); rintro e w1 ⟨r1, rfl, l1, c1, b1⟩
 try go_wp2_with fail
 refine hK.out _ _ ⟨hHeld.1.bel b1, hHeld.2.bel b1⟩ (fun hHeld => ?_)
 clear hK K
 try simp only [Act.put, Ow.zS, Ow.zC, Ow.zD]
 refine rc (i := 9) (fun K hK => ?_)
 go_simp
 go_at_call 85
 (with_reducible refine (F2.out _).mono ?_); rintro e w2 ⟨r2, rfl, l2, c2, b2⟩
 try go_wp2_with fail
 refine hK.out _ _ ⟨hHeld.1.bel b2, hHeld.2.bel b2⟩ (fun hHeld => ?_)
 clear hK K
 refine rt (i := 10) hHeld ?_
 try simp only [Act.put, Ow.zS, Ow.zC, Ow.zD]
 refine rc (i := 15) (fun K hK => ?_)
 go_simp
 go_at_call 85
 (with_reducible refine (F3.out _).mono ?_); rintro e w3 ⟨r3, rfl, l3, c3, b3⟩
 try go_wp2_with fail
 refine hK.out _ _ ⟨hHeld.1.bel b3, hHeld.2.bel b3⟩ (fun hHeld => ?_)
 clear hK K
 try simp only [Act.put, Ow.zS, Ow.zC, Ow.zD]
 refine rc (i := 20) (fun K hK => ?_)
 go_simp
 go_at_call 85
 (with_reducible refine (F4.out _).mono ?_); rintro e w4 ⟨r4, rfl, l4, c4, b4⟩
 try go_wp2_with fail
 refine hK.out _ _ ⟨hHeld.1.bel b4, hHeld.2.bel b4⟩ (fun hHeld => ?_)
 clear hK K
 refine rt (i := 21) hHeld ?_
 have bb := Ho.mk ((((((Bel.refl W).drew).trans b1).trans b2).trans b3).trans b4)
 have KR := Ho.mk (KR.out.bel bb.out)
 have KS := Ho.mk (KS.out.bel bb.out)
 have g2 := Ho.mk (g0.out.trans bb.out)
 clear bb
 obtain ⟨y0, y1⟩ := KR.out.c2
 have z0 := KR.out.free 0
 have z1 := KR.out.free 1
 obtain ⟨x0, x1⟩ := KS.out.c2
 have v0 := KS.out.free 0
 have v1 := KS.out.free 1
 try simp only [Act.put, Ow.zS, Ow.zC, Ow.zD]
 refine rc (i := 22) (fun K hK => ?_)
 go_simp
 refine hK.out _ _ ⟨((hHeld.1.far (p := ⟨w.heap.size + 1 + 1, 0, none⟩) (by dsimp only; omega) (.float .f64 r1)).far (p := ⟨w.heap.size + 1 + 1, 1, none⟩) (by dsimp only; omega) (.float .f64 r2)), ((hHeld.2.far (p := ⟨w.heap.size + 1 + 1, 0, none⟩) (by dsimp only; omega) (.float .f64 r1)).far (p := ⟨w.heap.size + 1 + 1, 1, none⟩) (by dsimp only; omega) (.float .f64 r2))⟩ (fun hHeld => ?_)
 clear hK K
 have KS := Ho.mk ((KS.out.far (p := ⟨w.heap.size + 1 + 1, 0, none⟩) (by dsimp only; omega) (.float .f64 r1)).far (p := ⟨w.heap.size + 1 + 1, 1, none⟩) (by dsimp only; omega) (.float .f64 r2))
 have KR := Ho.mk ((KR.out.set 0 (.float .f64 r1)).set 1 (.float .f64 r2))
 have g3 := Ho.mk ((g2.out.out.setCell (p := ⟨w.heap.size + 1 + 1, 0, none⟩) (by dsimp only; omega) (.float .f64 r1)).setCell (p := ⟨w.heap.size + 1 + 1, 1, none⟩) (by dsimp only; omega) (.float .f64 r2))
 simp only [List.set_cons_zero, List.set_cons_succ] at KR
 clear x0 x1 y0 y1 z0 z1 v0 v1
 generalize (w4.setCell ⟨w.heap.size + 1 + 1, 0, none⟩ (.float .f64 r1)).setCell ⟨w.heap.size + 1 + 1, 1, none⟩ (.float .f64 r2) = W9 at *
 obtain ⟨x0, x1⟩ := KS.out.c2
 have v0 := KS.out.free 0
 have v1 := KS.out.free 1
 try simp only [Act.put, Ow.zS, Ow.zC, Ow.zD]
 refine rc (i := 23) (fun K hK => ?_)
 go_simp
 refine hK.out _ _ ⟨((hHeld.1.far (p := ⟨w.heap.size + 1 + 1 + 1, 0, none⟩) (by dsimp only; omega) (.float .f64 r3)).far (p := ⟨w.heap.size + 1 + 1 + 1, 1, none⟩) (by dsimp only; omega) (.float .f64 r4)), ((hHeld.2.far (p := ⟨w.heap.size + 1 + 1 + 1, 0, none⟩) (by dsimp only; omega) (.float .f64 r3)).far (p := ⟨w.heap.size + 1 + 1 + 1, 1, none⟩) (by dsimp only; omega) (.float .f64 r4))⟩ (fun hHeld => ?_)
 clear hK K
 try simp only [Act.put, Ow.zS, Ow.zC, Ow.zD]
 refine wpAnyH_done (by kernel_rfl) ?_ _
 go_wp2
 exact bodyPost_ret (resPP (fn := Tryz.f107) rfl rfl rfl ((KR.out.far (p := ⟨w.heap.size + 1 + 1 + 1, 0, none⟩) (by dsimp only; omega) (.float .f64 r3)).far (p := ⟨w.heap.size + 1 + 1 + 1, 1, none⟩) (by dsimp only; omega) (.float .f64 r4)) ((KS.out.set 0 (.float .f64 r3)).set 1 (.float .f64 r4))) rfl ⟨r1, r2, r3, r4, rfl, ⟨⟨l1, l2⟩, ⟨l3, l4⟩⟩, ⟨⟨c1, c2⟩, ⟨c3, c4⟩⟩, ⟨((g3.out.setCell (p := ⟨w.heap.size + 1 + 1 + 1, 0, none⟩) (by dsimp only; omega) (.float .f64 r3)).setCell (p := ⟨w.heap.size + 1 + 1 + 1, 1, none⟩) (by dsimp only; omega) (.float .f64 r4))⟩⟩
theorem dTurnP {a b c d : Nat} (w : World) (ha : a < 2 * sgnW) (hb : b < 2 * sgnW) (hc : c < 2 * sgnW) (hd : d < 2 * sgnW) :
  Calls Tryz.prog 126 #[.agg #[.float .f64 a, .float .f64 b], .agg #[.float .f64 c, .float .f64 d]] w (TellsP w (fadd (fmul (cn a) (cn c)) (fmul (cn b) (cn d)), fsub (fmul (cn b) (cn c)) (fmul (cn a) (cn d)))) := by
 have BY := Ho.mk (fun w => dBy w ha hb hc hd)
 clear ha hb hc hd
 go_enter Tryz.func126, Tryz.ntmps126
 have KP := Ho.mk (((Blk.new w [.float .f64 a, .float .f64 b] 107).old (.cells #[.float .f64 c, .float .f64 d] 107)).old (.cells #[.float .f64 0, .float .f64 0] 107))
 have KQ := Ho.mk ((Blk.new (w.alloc (.cells #[.float .f64 a, .float .f64 b] 107)) [.float .f64 c, .float .f64 d] 107).old (.cells #[.float .f64 0, .float .f64 0] 107))
 rw [World.size_alloc] at KQ
 have KR := Ho.mk (Blk.new ((w.alloc (.cells #[.float .f64 a, .float .f64 b] 107)).alloc (.cells #[.float .f64 c, .float .f64 d] 107)) [.float .f64 0, .float .f64 0] 107)
 rw [World.size_alloc, World.size_alloc] at KR
 have g0 := Ho.mk ((((Bel.refl w).alloc (.cells #[.float .f64 a, .float .f64 b] 107)).alloc (.cells #[.float .f64 c, .float .f64 d] 107)).alloc (.cells #[.float .f64 0, .float .f64 0] 107))
 have hS : (((w.alloc (.cells #[.float .f64 a, .float .f64 b] 107)).alloc (.cells #[.float .f64 c, .float .f64 d] 107)).alloc (.cells #[.float .f64 0, .float .f64 0] 107)).heap.size = w.heap.size + 1 + 1 + 1 := by simp only [World.size_alloc]
 go_upto_region 1 with fail
 generalize (((w.alloc (.cells #[.float .f64 a, .float .f64 b] 107)).alloc (.cells #[.float .f64 c, .float .f64 d] 107)).alloc (.cells #[.float .f64 0, .float .f64 0] 107)) = W at *
 obtain ⟨x0, x1⟩ := KP.out.c2
 obtain ⟨y0, y1⟩ := KQ.out.c2
 go_wp2_with fail
 (with_reducible refine (BY.out _).mono ?_); rintro e w5 ⟨r, s, t, u, rfl, l5, c5, b5⟩
 have KR := Ho.mk (KR.out.bel b5)
 have g2 := Ho.mk (g0.out.trans b5)
 clear x0 x1 y0 y1 b5 KP KQ
 go_upto_region 2 with fail
 have KX := Ho.mk ((Blk.new w5 [.float .f64 r, .float .f64 s] 107).old (.cells #[.float .f64 t, .float .f64 u] 107))
 have KY := Ho.mk (Blk.new (w5.alloc (.cells #[.float .f64 r, .float .f64 s] 107)) [.float .f64 t, .float .f64 u] 107)
 rw [World.size_alloc] at KY
 have KR := Ho.mk ((KR.out.old (.cells #[.float .f64 r, .float .f64 s] 107)).old (.cells #[.float .f64 t, .float .f64 u] 107))
 have g3 := Ho.mk ((g2.out.alloc (.cells #[.float .f64 r, .float .f64 s] 107)).alloc (.cells #[.float .f64 t, .float .f64 u] 107))
 have A1 := Ho.mk (fun w => dOAdd w l5.1.1 l5.2.1)
 have A2 := Ho.mk (fun w => dOSub w l5.2.2 l5.1.2)
 have C5 := Ho.mk c5
 clear l5 c5 g2
 generalize (w5.alloc (.cells #[.float .f64 r, .float .f64 s] 107)).alloc (.cells #[.float .f64 t, .float .f64 u] 107) = W3 at *
 obtain ⟨x0, x1⟩ := KX.out.c2
 obtain ⟨y0, y1⟩ := KY.out.c2
 refine I7.wp_region_late 11 (S := fun w' => Bel W3 w') (by kernel_rfl) (Bel.refl _).drew (fun hHeld => ?_)
 (try dsimp only at hHeld)
 refine I7.kt (i := 0) hHeld ?_
 refine I7.kl (i := 1) (v := ?_) hHeld (fun w hSw => ?_) ?_
 rotate_left
 ·(have z0 := hSw.cell x0; go_simp; try (with_reducible rfl))
 refine I7.kt (i := 2) hHeld ?_
 refine I7.kl (i := 3) (v := ?_) hHeld (fun w hSw => ?_) ?_
 rotate_left
 ·(have z0 := hSw.cell y0; go_simp; try (with_reducible rfl))
 refine I7.kt (i := 5) hHeld ?_
 refine I7.kl (i := 6) (v := ?_) hHeld (fun w hSw => ?_) ?_
 rotate_left
 ·(have z0 := hSw.cell y1; go_simp; try (with_reducible rfl))
 refine I7.kt (i := 7) hHeld ?_
 refine I7.kl (i := 8) (v := ?_) hHeld (fun w hSw => ?_) ?_
 rotate_left
 ·(have z0 := hSw.cell x1; go_simp; try (with_reducible rfl))
 try simp only [Act.put, Ow.zS, Ow.zC, Ow.zD]
 refine I7.kc (i := 4) (fun K hK => ?_)
 go_simp
 go_at_call 41
 (with_reducible refine (A1.out _).mono ?_); rintro e w6 ⟨r6, rfl, l6, c6, b6⟩
 try go_wp2_with fail
 refine hK.out _ _ (Bel.trans hHeld b6) (fun hHeld => ?_)
 clear hK K
 try simp only [Act.put, Ow.zS, Ow.zC, Ow.zD]
 refine I7.kc (i := 9) (fun K hK => ?_)
 go_simp
 go_at_call 42
 (with_reducible refine (A2.out _).mono ?_); rintro e w7 ⟨r7, rfl, l7, c7, b7⟩
 try go_wp2_with fail
 refine hK.out _ _ (Bel.trans hHeld b7) (fun hHeld => ?_)
 clear hK K
 refine I7.kt (i := 10) hHeld ?_
 have KR := Ho.mk (KR.out.bel hHeld)
 have g4 := Ho.mk (g3.out.trans hHeld)
 clear x0 x1 y0 y1 hHeld
 obtain ⟨y0, y1⟩ := KR.out.c2
 have z0 := KR.out.free 0
 have z1 := KR.out.free 1
 try simp only [Act.put, Ow.zS, Ow.zC, Ow.zD]
 refine I7.ke (i := 11) (fun K hK => ?_)
 go_simp
 refine hK.out _ _ ?_
 clear hK K
 try simp only [Act.put, Ow.zS, Ow.zC, Ow.zD]
 refine wpAny_done (by kernel_rfl) ?_ _
 go_wp2
 exact bodyPost_ret (resP (fn := Tryz.f126) rfl rfl ((KR.out.set 0 (.float .f64 r6)).set 1 (.float .f64 r7))) rfl ⟨r6, r7, rfl, ⟨l6, l7⟩, ⟨by rw [c6, C5.out.1.1, C5.out.2.1], by rw [c7, C5.out.2.2, C5.out.1.2]⟩, ⟨((g4.out.out.setCell (p := ⟨w.heap.size + 1 + 1, 0, none⟩) (by dsimp only; omega) (.float .f64 r6)).setCell (p := ⟨w.heap.size + 1 + 1, 1, none⟩) (by dsimp only; omega) (.float .f64 r7))⟩⟩
theorem dTold {a b c d fn : Nat} {p : Nat × Nat} (w : World) (hfn : fn = 141 ∨ fn = 142 ∨ fn = 126)
  (BY : ∀ w, Calls Tryz.prog fn #[.agg #[.float .f64 a, .float .f64 b], .agg #[.float .f64 c, .float .f64 d]] w (TellsP w p)) :
  Calls Tryz.prog 76 #[.func (.func fn) #[] #[], .float .f64 a, .float .f64 b, .float .f64 c, .float .f64 d] w (Tells2 w p) := by
 have BB := Ho.mk BY
 clear BY
 rcases hfn with rfl | rfl | rfl
 all_goals
  go_enter Tryz.func76, Tryz.ntmps76
  go_wp2_with fail
  (with_reducible refine (BB.out _).mono ?_); rintro e w5 ⟨r, s, rfl, l5, c5, b5⟩
  have KX := Ho.mk (Blk.new w5 [.float .f64 r, .float .f64 s] 107)
  have g2 := Ho.mk (b5.alloc (.cells #[.float .f64 r, .float .f64 s] 107))
  have HH := Ho.mk (And.intro l5 c5)
  clear l5 c5 b5
  obtain ⟨y0, y1⟩ := KX.out.c2
  go_upto_region 2 with fail
  generalize w5.alloc (.cells #[.float .f64 r, .float .f64 s] 107) = W3 at *
  go_region
  go_wp2
  go_ret2
  exact ⟨r, s, rfl, HH.out.1, HH.out.2, g2.out.drew⟩
end P1
namespace P2
open Ieee Go Go.RowKit Go.Proofs Go.Proofs.YtalbgklfhabnkaaGreatDoor Ow Pl Gp F1 I0 W0 S3 S4 P0 P1
attribute [local go_sem ↓] Go.wp_at_zero Go.wp_at_succ
theorem dCAdd {a b c d : Nat} (w : World) (ha : a < 2 * sgnW) (hb : b < 2 * sgnW) (hc : c < 2 * sgnW) (hd : d < 2 * sgnW) :
  Calls Tryz.prog 122 #[.float .f64 a, .float .f64 b, .float .f64 c, .float .f64 d] w (Tells2 w (fadd (cn a) (cn c), fadd (cn b) (cn d))) := by
 have TD := Ho.mk (fun w => dTold w (.inl rfl) (fun w => dPAdd w ha hb hc hd))
 clear ha hb hc hd
 go_enter Tryz.func122, Tryz.ntmps122
 go_wp2_with fail
 (with_reducible refine (TD.out _).mono ?_); rintro e w5 ⟨r, s, rfl, l5, c5, b5⟩
 go_wp2
 go_ret2
 exact ⟨r, s, rfl, l5, c5, b5⟩
theorem dCSub {a b c d : Nat} (w : World) (ha : a < 2 * sgnW) (hb : b < 2 * sgnW) (hc : c < 2 * sgnW) (hd : d < 2 * sgnW) :
  Calls Tryz.prog 123 #[.float .f64 a, .float .f64 b, .float .f64 c, .float .f64 d] w (Tells2 w (fsub (cn a) (cn c), fsub (cn b) (cn d))) := by
 have TD := Ho.mk (fun w => dTold w (.inr (.inl rfl)) (fun w => dPSub w ha hb hc hd))
 clear ha hb hc hd
 go_enter Tryz.func123, Tryz.ntmps123
 go_wp2_with fail
 (with_reducible refine (TD.out _).mono ?_); rintro e w5 ⟨r, s, rfl, l5, c5, b5⟩
 go_wp2
 go_ret2
 exact ⟨r, s, rfl, l5, c5, b5⟩
theorem dCTurn {a b c d : Nat} (w : World) (ha : a < 2 * sgnW) (hb : b < 2 * sgnW) (hc : c < 2 * sgnW) (hd : d < 2 * sgnW) :
  Calls Tryz.prog 93 #[.float .f64 a, .float .f64 b, .float .f64 c, .float .f64 d] w (Tells2 w (fadd (fmul (cn a) (cn c)) (fmul (cn b) (cn d)), fsub (fmul (cn b) (cn c)) (fmul (cn a) (cn d)))) := by
 have TD := Ho.mk (fun w => dTold w (.inr (.inr rfl)) (fun w => dTurnP w ha hb hc hd))
 clear ha hb hc hd
 go_enter Tryz.func93, Tryz.ntmps93
 go_wp2_with fail
 (with_reducible refine (TD.out _).mono ?_); rintro e w5 ⟨r, s, rfl, l5, c5, b5⟩
 go_wp2
 go_ret2
 exact ⟨r, s, rfl, l5, c5, b5⟩
end P2
namespace M0
structure Ops (α : Type) where
 add : α → α → α
 sub : α → α → α
 mul : α → α → α
 neg : α → α
 lit : Nat → α
def loopN {σ : Type} (f : Nat → σ → σ) : Nat → σ → σ
 | 0, s => s
 | k + 1, s => f k (loopN f k s)
section
variable {α : Type} (O : Ops α)
def nthG (l : List α) (i : Nat) : α := l.getD i (O.lit 0)
def cadd (x y a b : α) : α × α := (O.add x a, O.add y b)
def csub (x y a b : α) : α × α := (O.sub x a, O.sub y b)
def cturn (a b c s : α) : α × α := (O.add (O.mul a c) (O.mul b s), O.sub (O.mul b c) (O.mul a s))
def cmul (a b c d : α) : α × α := (O.sub (O.mul a c) (O.mul b d), O.add (O.mul a d) (O.mul b c))
def halfW : Nat := 4602678819172646912
def swapAt (l : List α) (k a : Nat) : List α := if k < a then (l.set k (nthG O l a)).set a (nthG O l k) else l
def swapG (order : List Nat) (l : List α) : List α := loopN (fun k l => swapAt O l k (order.getD k 0)) order.length l
def mstep (from_ half : Nat) (tw : Nat → Nat × Nat) (k : Nat) (st : List α × List α) : List α × List α :=
 let a := nthG O st.1 (from_ + half + k)
 let b := nthG O st.2 (from_ + half + k)
 let t := if k = 0 then (a, b) else cturn O a b (O.lit (tw k).1) (O.lit (tw k).2)
 let x := nthG O st.1 (from_ + k)
 let y := nthG O st.2 (from_ + k)
 ((st.1.set (from_ + k) (O.add x t.1)).set (from_ + half + k) (O.sub x t.1), (st.2.set (from_ + k) (O.add y t.2)).set (from_ + half + k) (O.sub y t.2))
def mergeG (from_ half : Nat) (tw : Nat → Nat × Nat) (st : List α × List α) : List α × List α := loopN (mstep O from_ half tw) half st
def stageG (half many : Nat) (tw : Nat → Nat × Nat) (st : List α × List α) : List α × List α := loopN (fun i st => mergeG O (i * (2 * half)) half tw st) many st
def intoG (order : List Nat) (p : Nat) (tab : Nat → Nat × Nat) (st : List α × List α) : List α × List α :=
 loopN (fun q st => stageG O (2 ^ q) (2 ^ (p - (q + 1))) (fun k => tab (k * 2 ^ (p - (q + 1)))) st) p (swapG O order st.1, swapG O order st.2)
end
def bitsStep (p k : Nat) (l : List Nat) : List Nat := if 0 < k then l.set k (l.getD (k / 2) 0 / 2 + k % 2 * 2 ^ (p - 1)) else l
def bitsG (p : Nat) : List Nat := loopN (bitsStep p) (2 ^ p) (List.replicate (2 ^ p) 0)
end M0
namespace M1
open M0
variable {α : Type} (O : Ops α)
theorem loopN_succ {σ : Type} (f : Nat → σ → σ) (k : Nat) (s : σ) : loopN f (k + 1) s = f k (loopN f k s) := rfl
theorem loopN_congr {σ : Type} {f g : Nat → σ → σ} (n : Nat) (s : σ) (h : ∀ k, k < n → ∀ s, f k s = g k s) : loopN f n s = loopN g n s := by
 induction n with
 | zero => rfl
 | succ n ih => rw [loopN_succ, loopN_succ, ih (fun k hk => h k (by omega)), h n (by omega)]
theorem loopN_inv {σ : Type} {f : Nat → σ → σ} {I : Nat → σ → Prop} (n : Nat) {s : σ} (h0 : I 0 s) (h : ∀ k s, k < n → I k s → I (k + 1) (f k s)) : I n (loopN f n s) := by
 induction n with
 | zero => exact h0
 | succ n ih => exact h n _ (by omega) (ih fun k s hk => h k s (by omega))
theorem nthG_lt {l : List α} {i : Nat} (h : i < l.length) : nthG O l i = l[i] := by simp [nthG, h]
theorem nthG_set (l : List α) (i : Nat) (x : α) (j : Nat) : nthG O (l.set i x) j = if i = j ∧ i < l.length then x else nthG O l j := by
 simp only [nthG, List.getD_eq_getElem?_getD, List.getElem?_set]
 by_cases h : i = j
 ·subst h
  by_cases h2 : i < l.length
  ·simp [h2]
  ·simp [h2]
 ·simp [h]
theorem ext_nth {a b : List α} (hl : a.length = b.length) (h : ∀ i, i < a.length → nthG O a i = nthG O b i) : a = b := by
 apply List.ext_getElem hl
 intro i h1 h2
 have := h i h1
 rwa [nthG_lt O h1, nthG_lt O h2] at this
theorem nthG_app (a b : List α) (i : Nat) : nthG O (a ++ b) i = if i < a.length then nthG O a i else nthG O b (i - a.length) := by
 simp only [nthG, List.getD_eq_getElem?_getD, List.getElem?_append]
 split <;> rfl
theorem nthG_map (f : Nat → α) {n i : Nat} (h : i < n) : nthG O ((List.range n).map f) i = f i := by
 rw [nthG_lt O (by simpa using h)]; simp
def tw1 (tw : Nat → Nat × Nat) (k : Nat) (a b : α) : α × α := if k = 0 then (a, b) else cturn O a b (O.lit (tw k).1) (O.lit (tw k).2)
def mergeAt (f half : Nat) (tw : Nat → Nat × Nat) (X Y : Nat → α) (i : Nat) : α × α :=
 if f ≤ i ∧ i < f + half then cadd O (X i) (Y i) (tw1 O tw (i - f) (X (i + half)) (Y (i + half))).1 (tw1 O tw (i - f) (X (i + half)) (Y (i + half))).2
 else if f + half ≤ i ∧ i < f + 2 * half then csub O (X (i - half)) (Y (i - half)) (tw1 O tw (i - f - half) (X i) (Y i)).1 (tw1 O tw (i - f - half) (X i) (Y i)).2
 else (X i, Y i)
def mergeK (f half k : Nat) (tw : Nat → Nat × Nat) (X Y : Nat → α) (i : Nat) : α × α :=
 if f ≤ i ∧ i < f + k then cadd O (X i) (Y i) (tw1 O tw (i - f) (X (i + half)) (Y (i + half))).1 (tw1 O tw (i - f) (X (i + half)) (Y (i + half))).2
 else if f + half ≤ i ∧ i < f + half + k then csub O (X (i - half)) (Y (i - half)) (tw1 O tw (i - f - half) (X i) (Y i)).1 (tw1 O tw (i - f - half) (X i) (Y i)).2
 else (X i, Y i)
theorem mergeG_at (f half : Nat) (tw : Nat → Nat × Nat) (st : List α × List α) (h1 : f + 2 * half ≤ st.1.length) (h2 : f + 2 * half ≤ st.2.length) :
  (mergeG O f half tw st).1.length = st.1.length ∧ (mergeG O f half tw st).2.length = st.2.length ∧
  ∀ i, (nthG O (mergeG O f half tw st).1 i, nthG O (mergeG O f half tw st).2 i) = mergeAt O f half tw (nthG O st.1) (nthG O st.2) i := by
 have key := loopN_inv (f := mstep O f half tw) (I := fun k s => s.1.length = st.1.length ∧ s.2.length = st.2.length ∧ ∀ i, (nthG O s.1 i, nthG O s.2 i) = mergeK O f half k tw (nthG O st.1) (nthG O st.2) i) half (s := st)
  ⟨rfl, rfl, fun i => by unfold mergeK; rw [if_neg (by omega), if_neg (by omega)]⟩ (by
  rintro k s hk ⟨l1, l2, h⟩
  refine ⟨by simp [mstep, l1], by simp [mstep, l2], fun i => ?_⟩
  have ea : (nthG O s.1 (f + half + k), nthG O s.2 (f + half + k)) = (nthG O st.1 (f + half + k), nthG O st.2 (f + half + k)) := by
   rw [h, mergeK, if_neg (by omega), if_neg (by omega)]
  have ex : (nthG O s.1 (f + k), nthG O s.2 (f + k)) = (nthG O st.1 (f + k), nthG O st.2 (f + k)) := by
   rw [h, mergeK, if_neg (by omega), if_neg (by omega)]
  simp only [Prod.mk.injEq] at ea ex
  have et : (if k = 0 then (nthG O s.1 (f + half + k), nthG O s.2 (f + half + k)) else cturn O (nthG O s.1 (f + half + k)) (nthG O s.2 (f + half + k)) (O.lit (tw k).1) (O.lit (tw k).2)) = tw1 O tw k (nthG O st.1 (f + half + k)) (nthG O st.2 (f + half + k)) := by
   rw [ea.1, ea.2]; rfl
  simp only [mstep, et, ex.1, ex.2]
  simp only [nthG_set, List.length_set, l1, l2]
  have hi := h i
  by_cases c1 : f + half + k = i
  ·subst c1
   simp only [show f + half + k < st.1.length from by omega, show f + half + k < st.2.length from by omega, and_self, if_true]
   rw [mergeK, if_neg (by omega), if_pos (by omega)]
   rw [show f + half + k - half = f + k from by omega, show f + half + k - f - half = k from by omega]; rfl
  ·simp only [c1, false_and, if_false]
   by_cases c2 : f + k = i
   ·subst c2
    simp only [show f + k < st.1.length from by omega, show f + k < st.2.length from by omega, and_self, if_true]
    rw [mergeK, if_pos (by omega)]
    rw [show f + k + half = f + half + k from by omega, show f + k - f = k from by omega]; rfl
   ·simp only [c2, false_and, if_false]
    rw [hi]
    unfold mergeK
    by_cases d1 : f ≤ i ∧ i < f + k
    ·rw [if_pos d1, if_pos (show f ≤ i ∧ i < f + (k + 1) by omega)]
    ·rw [if_neg d1, if_neg (show ¬ (f ≤ i ∧ i < f + (k + 1)) by omega)]
     by_cases d2 : f + half ≤ i ∧ i < f + half + k
     ·rw [if_pos d2, if_pos (show f + half ≤ i ∧ i < f + half + (k + 1) by omega)]
     ·rw [if_neg d2, if_neg (show ¬ (f + half ≤ i ∧ i < f + half + (k + 1)) by omega)])
 obtain ⟨a, b, c⟩ := key
 refine ⟨a, b, fun i => (c i).trans ?_⟩
 unfold mergeK mergeAt
 rw [show f + half + half = f + 2 * half from by omega]
def stageAt (half : Nat) (tw : Nat → Nat × Nat) (X Y : Nat → α) (i : Nat) : α × α :=
 if i % (2 * half) < half then cadd O (X i) (Y i) (tw1 O tw (i % (2 * half)) (X (i + half)) (Y (i + half))).1 (tw1 O tw (i % (2 * half)) (X (i + half)) (Y (i + half))).2
 else csub O (X (i - half)) (Y (i - half)) (tw1 O tw (i % (2 * half) - half) (X i) (Y i)).1 (tw1 O tw (i % (2 * half) - half) (X i) (Y i)).2
theorem stageG_at (half many : Nat) (hp : 0 < half) (tw : Nat → Nat × Nat) (st : List α × List α) (h1 : many * (2 * half) ≤ st.1.length) (h2 : many * (2 * half) ≤ st.2.length) :
  (stageG O half many tw st).1.length = st.1.length ∧ (stageG O half many tw st).2.length = st.2.length ∧
  ∀ i, (nthG O (stageG O half many tw st).1 i, nthG O (stageG O half many tw st).2 i) = if i < many * (2 * half) then stageAt O half tw (nthG O st.1) (nthG O st.2) i else (nthG O st.1 i, nthG O st.2 i) := by
 refine loopN_inv (f := fun i st => mergeG O (i * (2 * half)) half tw st) (I := fun k s => s.1.length = st.1.length ∧ s.2.length = st.2.length ∧ ∀ i, (nthG O s.1 i, nthG O s.2 i) = if i < k * (2 * half) then stageAt O half tw (nthG O st.1) (nthG O st.2) i else (nthG O st.1 i, nthG O st.2 i)) many (s := st)
  ⟨rfl, rfl, fun i => by rw [if_neg (by omega)]⟩ ?_
 rintro k s hk ⟨l1, l2, h⟩
 have hle : (k + 1) * (2 * half) ≤ many * (2 * half) := Nat.mul_le_mul_right _ hk
 rw [Nat.succ_mul k] at hle
 obtain ⟨m1, m2, m⟩ := mergeG_at O (k * (2 * half)) half tw s (by omega) (by omega)
 refine ⟨m1.trans l1, m2.trans l2, fun i => (m i).trans ?_⟩
 rw [Nat.succ_mul k]
 have far : ∀ j, k * (2 * half) ≤ j → nthG O s.1 j = nthG O st.1 j ∧ nthG O s.2 j = nthG O st.2 j := fun j hj => by
  have := h j
  rw [if_neg (by omega)] at this
  simpa using this
 have hi := h i
 generalize hF : k * (2 * half) = F at *
 have hmod : ∀ r, r < 2 * half → i = F + r → i % (2 * half) = r := fun r hr e => by
  rw [e, ← hF, Nat.mul_comm, Nat.mul_add_mod, Nat.mod_eq_of_lt hr]
 unfold mergeAt
 by_cases c1 : F ≤ i ∧ i < F + half
 ·have e := hmod (i - F) (by omega) (by omega)
  rw [if_pos c1, if_pos (by omega), stageAt, e, if_pos (by omega), (far i (by omega)).1, (far i (by omega)).2, (far (i + half) (by omega)).1, (far (i + half) (by omega)).2]
 ·rw [if_neg c1]
  by_cases c2 : F + half ≤ i ∧ i < F + 2 * half
  ·have e := hmod (i - F) (by omega) (by omega)
   rw [if_pos c2, if_pos (by omega), stageAt, e, if_neg (by omega), (far i (by omega)).1, (far i (by omega)).2, (far (i - half) (by omega)).1, (far (i - half) (by omega)).2]
  ·rw [if_neg c2, hi]
   by_cases c3 : i < F
   ·rw [if_pos c3, if_pos (by omega)]
   ·rw [if_neg c3, if_neg (by omega)]
theorem stageG_congr (half many : Nat) {tw tw' : Nat → Nat × Nat} (h : ∀ k, k < half → tw k = tw' k) (st : List α × List α) : stageG O half many tw st = stageG O half many tw' st := by
 refine loopN_congr _ _ fun i _ s => loopN_congr _ _ fun k hk s => ?_
 unfold mstep
 simp only [h k hk]
def stages (p : Nat) (tw : Nat → Nat → Nat × Nat) (n : Nat) (st : List α × List α) : List α × List α := loopN (fun q st => stageG O (2 ^ q) (2 ^ (p - (q + 1))) (tw q) st) n st
theorem pow_split {p q : Nat} (h : q < p) : 2 ^ (p - (q + 1)) * (2 * 2 ^ q) = 2 ^ p := by
 rw [← Nat.pow_succ', ← Nat.pow_add]; congr 1; omega
theorem stages_len {p : Nat} (tw : Nat → Nat → Nat × Nat) {st : List α × List α} (h1 : st.1.length = 2 ^ p) (h2 : st.2.length = 2 ^ p) {n : Nat} (hn : n ≤ p) :
  (stages O p tw n st).1.length = 2 ^ p ∧ (stages O p tw n st).2.length = 2 ^ p := by
 refine loopN_inv (I := fun k (s : List α × List α) => s.1.length = 2 ^ p ∧ s.2.length = 2 ^ p) n ⟨h1, h2⟩ ?_
 rintro q s hq ⟨a, b⟩
 have e := pow_split (show q < p by omega)
 obtain ⟨x, y, _⟩ := stageG_at O (2 ^ q) (2 ^ (p - (q + 1))) (Nat.two_pow_pos q) (tw q) s (by omega) (by omega)
 exact ⟨x.trans a, y.trans b⟩
def appP (x y : List α × List α) : List α × List α := (x.1 ++ y.1, x.2 ++ y.2)
theorem stage_app (p q : Nat) (hq : q < p) (tw : Nat → Nat × Nat) (x y : List α × List α) (h1 : x.1.length = 2 ^ p) (h2 : x.2.length = 2 ^ p) (h3 : y.1.length = 2 ^ p) (h4 : y.2.length = 2 ^ p) :
  stageG O (2 ^ q) (2 ^ (p + 1 - (q + 1))) tw (appP x y) = appP (stageG O (2 ^ q) (2 ^ (p - (q + 1))) tw x) (stageG O (2 ^ q) (2 ^ (p - (q + 1))) tw y) := by
 have e1 := pow_split (show q < p + 1 by omega)
 have e2 := pow_split hq
 have e3 : 2 ^ (p + 1) = 2 ^ p + 2 ^ p := by rw [Nat.pow_succ]; omega
 have hpos := Nat.two_pow_pos q
 obtain ⟨a1, a2, a⟩ := stageG_at O (2 ^ q) (2 ^ (p + 1 - (q + 1))) hpos tw (appP x y) (by simp only [appP, List.length_append]; rw [e1]; omega) (by simp only [appP, List.length_append]; rw [e1]; omega)
 obtain ⟨b1, b2, b⟩ := stageG_at O (2 ^ q) (2 ^ (p - (q + 1))) hpos tw x (by omega) (by omega)
 obtain ⟨c1, c2, c⟩ := stageG_at O (2 ^ q) (2 ^ (p - (q + 1))) hpos tw y (by omega) (by omega)
 rw [e1] at a
 rw [e2] at b c
 have hdvd : 2 ^ p % (2 * 2 ^ q) = 0 := by rw [← e2]; exact Nat.mul_mod_left _ _
 generalize stageG O (2 ^ q) (2 ^ (p + 1 - (q + 1))) tw (appP x y) = A at *
 generalize stageG O (2 ^ q) (2 ^ (p - (q + 1))) tw x = B at *
 generalize stageG O (2 ^ q) (2 ^ (p - (q + 1))) tw y = C at *
 generalize hH : 2 ^ q = H at *
 generalize hN : 2 ^ p = N at *
 have key : ∀ i, i < 2 ^ (p + 1) → (nthG O A.1 i, nthG O A.2 i) = (nthG O (appP B C).1 i, nthG O (appP B C).2 i) := fun i hi => by
  rw [a i, if_pos hi]
  have hnA : ∀ j, nthG O (appP x y).1 j = if j < N then nthG O x.1 j else nthG O y.1 (j - N) := fun j => by simp only [appP]; rw [nthG_app, h1]
  have hnB : ∀ j, nthG O (appP x y).2 j = if j < N then nthG O x.2 j else nthG O y.2 (j - N) := fun j => by simp only [appP]; rw [nthG_app, h2]
  have hnC : nthG O (appP B C).1 i = if i < N then nthG O B.1 i else nthG O C.1 (i - N) := by simp only [appP]; rw [nthG_app, b1, h1]
  have hnD : nthG O (appP B C).2 i = if i < N then nthG O B.2 i else nthG O C.2 (i - N) := by simp only [appP]; rw [nthG_app, b2, h2]
  rw [hnC, hnD]
  -- the place within its merge
  have hr : i % (2 * H) < 2 * H := Nat.mod_lt _ (by omega)
  by_cases c0 : i < N
  ·rw [if_pos c0, if_pos c0, b i, if_pos c0]
   unfold stageAt
   have hin : i - i % (2 * H) + 2 * H ≤ N := by
    have hd : N / (2 * H) * (2 * H) = N := Nat.div_mul_cancel (Nat.dvd_of_mod_eq_zero hdvd)
    have hi2 : i - i % (2 * H) = i / (2 * H) * (2 * H) := by have := Nat.div_add_mod' i (2 * H); omega
    have hlt : i / (2 * H) < N / (2 * H) := by
     apply Nat.lt_of_mul_lt_mul_right (a := 2 * H)
     rw [hd]; have := Nat.div_mul_le_self i (2 * H); omega
    have hm : (i / (2 * H) + 1) * (2 * H) ≤ N / (2 * H) * (2 * H) := Nat.mul_le_mul_right _ hlt
    rw [Nat.succ_mul (i / (2 * H))] at hm; omega
   have hle := Nat.mod_le i (2 * H)
   by_cases cr : i % (2 * H) < H
   ·rw [if_pos cr, if_pos cr, hnA, hnB, hnA, hnB, if_pos c0, if_pos c0, if_pos (by omega), if_pos (by omega)]
   ·rw [if_neg cr, if_neg cr, hnA, hnB, hnA, hnB, if_pos c0, if_pos c0, if_pos (by omega), if_pos (by omega)]
  ·rw [if_neg c0, if_neg c0, c (i - N), if_pos (by omega)]
   have em : (i - N) % (2 * H) = i % (2 * H) := by
    have hd : N / (2 * H) * (2 * H) = N := Nat.div_mul_cancel (Nat.dvd_of_mod_eq_zero hdvd)
    have : i % (2 * H) = ((i - N) + N / (2 * H) * (2 * H)) % (2 * H) := by rw [hd]; congr 1; omega
    rw [this, Nat.add_mul_mod_self_right]
   have hle := Nat.mod_le (i - N) (2 * H)
   unfold stageAt
   rw [em]
   by_cases cr : i % (2 * H) < H
   ·rw [if_pos cr, if_pos cr, hnA, hnB, hnA, hnB, if_neg c0, if_neg c0, if_neg (by omega), if_neg (by omega), show i + H - N = i - N + H from by omega]
   ·rw [if_neg cr, if_neg cr, hnA, hnB, hnA, hnB, if_neg c0, if_neg c0, if_neg (by omega), if_neg (by omega), show i - H - N = i - N - H from by omega]
 have lA : A.1.length = 2 ^ (p + 1) := by rw [a1]; simp [appP]; omega
 have lB : A.2.length = 2 ^ (p + 1) := by rw [a2]; simp [appP]; omega
 apply Prod.ext
 ·refine ext_nth O (by rw [lA]; simp [appP]; omega) fun i hi => ?_
  have := key i (by omega); simp only [Prod.mk.injEq] at this; exact this.1
 ·refine ext_nth O (by rw [lB]; simp [appP]; omega) fun i hi => ?_
  have := key i (by omega); simp only [Prod.mk.injEq] at this; exact this.2
theorem stages_app (p : Nat) (tw : Nat → Nat → Nat × Nat) (x y : List α × List α) (h1 : x.1.length = 2 ^ p) (h2 : x.2.length = 2 ^ p) (h3 : y.1.length = 2 ^ p) (h4 : y.2.length = 2 ^ p) (n : Nat) (hn : n ≤ p) :
  stages O (p + 1) tw n (appP x y) = appP (stages O p tw n x) (stages O p tw n y) := by
 induction n with
 | zero => rfl
 | succ n ih =>
  have a := stages_len O tw h1 h2 (show n ≤ p by omega)
  have b := stages_len O tw h3 h4 (show n ≤ p by omega)
  have ih' := ih (by omega)
  unfold stages at ih' ⊢
  rw [loopN_succ, loopN_succ, loopN_succ, ih']
  exact stage_app O p n (by omega) (tw n) _ _ a.1 a.2 b.1 b.2
def mergeL (half : Nat) (tw : Nat → Nat × Nat) (e o : List α × List α) : List α × List α :=
 appP ((List.range half).map fun k => O.add (nthG O e.1 k) (tw1 O tw k (nthG O o.1 k) (nthG O o.2 k)).1, (List.range half).map fun k => O.add (nthG O e.2 k) (tw1 O tw k (nthG O o.1 k) (nthG O o.2 k)).2)
  ((List.range half).map fun k => O.sub (nthG O e.1 k) (tw1 O tw k (nthG O o.1 k) (nthG O o.2 k)).1, (List.range half).map fun k => O.sub (nthG O e.2 k) (tw1 O tw k (nthG O o.1 k) (nthG O o.2 k)).2)
theorem mergeG_app (half : Nat) (hp : 0 < half) (tw : Nat → Nat × Nat) (e o : List α × List α) (h1 : e.1.length = half) (h2 : e.2.length = half) (h3 : o.1.length = half) (h4 : o.2.length = half) :
  stageG O half 1 tw (appP e o) = mergeL O half tw e o := by
 obtain ⟨a1, a2, a⟩ := stageG_at O half 1 hp tw (appP e o) (by simp [appP]; omega) (by simp [appP]; omega)
 generalize stageG O half 1 tw (appP e o) = A at *
 have key : ∀ i, i < 2 * half → (nthG O A.1 i, nthG O A.2 i) = (nthG O (mergeL O half tw e o).1 i, nthG O (mergeL O half tw e o).2 i) := fun i hi => by
  rw [a i, if_pos (by omega)]
  have hnA : ∀ j, nthG O (appP e o).1 j = if j < half then nthG O e.1 j else nthG O o.1 (j - half) := fun j => by simp only [appP]; rw [nthG_app, h1]
  have hnB : ∀ j, nthG O (appP e o).2 j = if j < half then nthG O e.2 j else nthG O o.2 (j - half) := fun j => by simp only [appP]; rw [nthG_app, h2]
  unfold stageAt
  simp only [mergeL, appP, nthG_app, List.length_map, List.length_range]
  rw [Nat.mod_eq_of_lt hi]
  by_cases c : i < half
  ·rw [if_pos c, if_pos c, if_pos c, nthG_map O _ c, nthG_map O _ c]
   have q1 := hnA i; have q2 := hnB i; have q3 := hnA (i + half); have q4 := hnB (i + half)
   simp only [appP] at q1 q2 q3 q4
   rw [← nthG_app, ← nthG_app] at *
   rw [if_pos c] at q1 q2
   rw [if_neg (by omega), show i + half - half = i from by omega] at q3 q4
   simp only [nthG_app, h1, h2, if_pos c, show ¬ (i + half < half) from by omega, if_false, show i + half - half = i from by omega]
   rfl
  ·rw [if_neg c, if_neg c, if_neg c, nthG_map O _ (by omega), nthG_map O _ (by omega)]
   simp only [h1, h2, if_neg c, if_pos (show i - half < half by omega)]
   rfl
 have lA : A.1.length = 2 * half := by rw [a1]; simp [appP]; omega
 have lB : A.2.length = 2 * half := by rw [a2]; simp [appP]; omega
 apply Prod.ext
 ·refine ext_nth O (by rw [lA]; simp [mergeL, appP]; omega) fun i hi => ?_
  have := key i (by omega); simp only [Prod.mk.injEq] at this; exact this.1
 ·refine ext_nth O (by rw [lB]; simp [mergeL, appP]; omega) fun i hi => ?_
  have := key i (by omega); simp only [Prod.mk.injEq] at this; exact this.2
end M1
namespace M2
open M0 M1
variable {α : Type} (O : Ops α)
def evenG (l : List α) : List α := (List.range ((l.length + 1) / 2)).map fun i => nthG O l (2 * i)
def oddG (l : List α) : List α := (List.range (l.length / 2)).map fun i => nthG O l (2 * i + 1)
def gatherG (order : List Nat) (l : List α) : List α := order.map (nthG O l)
structure Inv (order : List Nat) (n : Nat) : Prop where
 len : order.length = n
 lt : ∀ k, k < n → order.getD k 0 < n
 back : ∀ k, k < n → order.getD (order.getD k 0) 0 = k
theorem swap_gather (order : List Nat) (l : List α) (h : Inv order l.length) : swapG O order l = gatherG O order l := by
 have key := loopN_inv (f := fun k l => swapAt O l k (order.getD k 0)) (I := fun k (s : List α) => s.length = l.length ∧ ∀ i, i < l.length → nthG O s i = if i < k ∨ order.getD i 0 < k then nthG O l (order.getD i 0) else nthG O l i) order.length (s := l)
  ⟨rfl, fun i hi => by rw [if_neg (by omega)]⟩ (by
  rintro k s hk ⟨l1, hs⟩
  have hk' : k < l.length := by rw [← h.len]; exact hk
  have hak := h.lt k hk'
  have hbk := h.back k hk'
  show (swapAt O s k (order.getD k 0)).length = _ ∧ _
  generalize ha : order.getD k 0 = a at *
  unfold swapAt
  by_cases c : k < a
  ·rw [if_pos c]
   refine ⟨by simp [l1], fun i hi => ?_⟩
   have hsk := hs k hk'
   rw [ha, if_neg (by omega)] at hsk
   have hsa := hs a hak
   rw [hbk, if_neg (by omega)] at hsa
   rw [nthG_set, nthG_set, List.length_set, l1]
   by_cases e1 : a = i
   ·subst e1
    simp only [true_and, hak, if_true]
    rw [hsk, hbk, if_pos (by omega)]
   ·simp only [e1, false_and, if_false]
    by_cases e2 : k = i
    ·subst e2
     simp only [true_and, hk', if_true]
     rw [hsa, ha, if_pos (by omega)]
    ·simp only [e2, false_and, if_false]
     rw [hs i hi]
     have hne : order.getD i 0 ≠ k := fun e => e1 (by have := h.back i hi; rw [e, ha] at this; exact this)
     by_cases d : i < k ∨ order.getD i 0 < k
     ·rw [if_pos d, if_pos (by omega)]
     ·rw [if_neg d, if_neg (by omega)]
  ·rw [if_neg c]
   refine ⟨l1, fun i hi => ?_⟩
   rw [hs i hi]
   by_cases d : i < k ∨ order.getD i 0 < k
   ·rw [if_pos d, if_pos (by omega)]
   ·rw [if_neg d]
    by_cases d2 : i < k + 1 ∨ order.getD i 0 < k + 1
    ·rw [if_pos d2]
     -- i = k or its place is k: then a = k
     have hi2 := h.back i hi
     have : order.getD i 0 = i := by
      rcases (show i = k ∨ order.getD i 0 = k by omega) with e | e
      ·subst e
       rw [ha]; rw [ha] at d hi2
       omega
      ·rw [e, ha] at hi2
       omega
     rw [this]
    ·rw [if_neg d2])
 obtain ⟨l1, hs⟩ := key
 refine ext_nth O (by unfold gatherG; rw [List.length_map, h.len]; exact l1) fun i hi => ?_
 have hi' : i < l.length := by unfold swapG at hi; omega
 have := hs i hi'
 rw [h.len, if_pos (.inl hi')] at this
 unfold swapG
 rw [h.len, this]
 unfold gatherG
 have hio : i < order.length := by rw [h.len]; exact hi'
 symm
 show (order.map (nthG O l)).getD i (O.lit 0) = _
 rw [List.getD_eq_getElem?_getD, List.getElem?_map, List.getD_eq_getElem?_getD, List.getElem?_eq_getElem hio]
 rfl
def invOk (p : Nat) : Bool :=
 let l := bitsG p
 l.length == 2 ^ p && (List.range (2 ^ p)).all (fun k => decide (l.getD k 0 < 2 ^ p) && l.getD (l.getD k 0) 0 == k)
theorem inv_ok : ∀ p : Fin 8, invOk p.val = true := by decide +kernel
theorem inv_bits {p : Nat} (hp : p ≤ 7) : Inv (bitsG p) (2 ^ p) := by
 have h := inv_ok ⟨p, by omega⟩
 unfold invOk at h
 simp only [Bool.and_eq_true, beq_iff_eq, List.all_eq_true, List.mem_range, decide_eq_true_eq] at h
 exact ⟨h.1, fun k hk => (h.2 k hk).1, fun k hk => (h.2 k hk).2⟩
theorem bits_rec : ∀ p : Fin 7, bitsG (p.val + 1) = (bitsG p.val).map (2 * ·) ++ (bitsG p.val).map (2 * · + 1) := by decide +kernel
theorem bits_mem {p : Nat} (hp : p ≤ 7) {k : Nat} (h : k ∈ bitsG p) : k < 2 ^ p := by
 obtain ⟨i, hi, e⟩ := List.getElem_of_mem h
 have I := inv_bits hp
 have := I.lt i (by rw [← I.len]; exact hi)
 simp [List.getD_eq_getElem?_getD, List.getElem?_eq_getElem hi, e] at this
 exact this
theorem evenG_len (l : List α) : (evenG O l).length = (l.length + 1) / 2 := by simp [evenG]
theorem oddG_len (l : List α) : (oddG O l).length = l.length / 2 := by simp [oddG]
theorem nthG_even (l : List α) {i : Nat} (h : i < (l.length + 1) / 2) : nthG O (evenG O l) i = nthG O l (2 * i) := nthG_map O _ h
theorem nthG_odd (l : List α) {i : Nat} (h : i < l.length / 2) : nthG O (oddG O l) i = nthG O l (2 * i + 1) := nthG_map O _ h
theorem gather_rec {p : Nat} (hp : p ≤ 6) (l : List α) (hl : l.length = 2 ^ (p + 1)) : gatherG O (bitsG (p + 1)) l = gatherG O (bitsG p) (evenG O l) ++ gatherG O (bitsG p) (oddG O l) := by
 have e := bits_rec ⟨p, by omega⟩
 dsimp only at e
 rw [Nat.pow_succ] at hl
 unfold gatherG
 rw [e, List.map_append, List.map_map, List.map_map]
 congr 1
 ·refine List.map_congr_left fun k hk => ?_
  have := bits_mem (show p ≤ 7 by omega) hk
  exact (nthG_even O l (by omega)).symm
 ·refine List.map_congr_left fun k hk => ?_
  have := bits_mem (show p ≤ 7 by omega) hk
  exact (nthG_odd O l (by omega)).symm
def recG (tw : Nat → Nat → Nat × Nat) : Nat → List α × List α → List α × List α
 | 0, st => st
 | p + 1, st => mergeL O (2 ^ p) (tw p) (recG tw p (evenG O st.1, evenG O st.2)) (recG tw p (oddG O st.1, oddG O st.2))
theorem gather_len {p : Nat} (hp : p ≤ 7) (l : List α) : (gatherG O (bitsG p) l).length = 2 ^ p := by
 unfold gatherG; rw [List.length_map, (inv_bits hp).len]
theorem stages_rec (tw : Nat → Nat → Nat × Nat) {p : Nat} (hp : p ≤ 7) (st : List α × List α) (h1 : st.1.length = 2 ^ p) (h2 : st.2.length = 2 ^ p) :
  stages O p tw p (gatherG O (bitsG p) st.1, gatherG O (bitsG p) st.2) = recG O tw p st := by
 induction p generalizing st with
 | zero =>
  have e : bitsG 0 = [0] := by decide
  have one : ∀ l : List α, l.length = 2 ^ 0 → gatherG O (bitsG 0) l = l := fun l hl => by
   rw [e]
   match l, hl with
   | [x], _ => rfl
  show (_, _) = st
  rw [one _ h1, one _ h2]
 | succ p ih =>
  have e3 : 2 ^ (p + 1) = 2 ^ p + 2 ^ p := by rw [Nat.pow_succ]; omega
  have hpos := Nat.two_pow_pos p
  rw [gather_rec O (by omega) _ h1, gather_rec O (by omega) _ h2]
  have le : ∀ l : List α, l.length = 2 ^ (p + 1) → (evenG O l).length = 2 ^ p ∧ (oddG O l).length = 2 ^ p := fun l hl => by
   rw [evenG_len, oddG_len]; omega
  have sa := stages_app O p tw (gatherG O (bitsG p) (evenG O st.1), gatherG O (bitsG p) (evenG O st.2)) (gatherG O (bitsG p) (oddG O st.1), gatherG O (bitsG p) (oddG O st.2))
   (gather_len O (by omega) _) (gather_len O (by omega) _) (gather_len O (by omega) _) (gather_len O (by omega) _) p (Nat.le_refl _)
  unfold appP at sa
  dsimp only at sa
  have ea := ih (by omega) (evenG O st.1, evenG O st.2) (le _ h1).1 (le _ h2).1
  have eo := ih (by omega) (oddG O st.1, oddG O st.2) (le _ h1).2 (le _ h2).2
  dsimp only at ea eo
  rw [ea, eo] at sa
  show stageG O (2 ^ p) (2 ^ (p + 1 - (p + 1))) (tw p) (stages O (p + 1) tw p _) = _
  rw [sa, Nat.sub_self, Nat.pow_zero]
  have la := stages_len O tw (st := (gatherG O (bitsG p) (evenG O st.1), gatherG O (bitsG p) (evenG O st.2))) (gather_len O (by omega) _) (gather_len O (by omega) _) (Nat.le_refl p)
  have lo := stages_len O tw (st := (gatherG O (bitsG p) (oddG O st.1), gatherG O (bitsG p) (oddG O st.2))) (gather_len O (by omega) _) (gather_len O (by omega) _) (Nat.le_refl p)
  rw [ea] at la
  rw [eo] at lo
  exact mergeG_app O (2 ^ p) hpos (tw p) _ _ la.1 la.2 lo.1 lo.2
theorem into_rec (tab : Nat → Nat × Nat) (tw : Nat → Nat → Nat × Nat) {p : Nat} (hp : p ≤ 7) (ht : ∀ q k, q < p → k < 2 ^ q → tab (k * 2 ^ (p - (q + 1))) = tw q k) (st : List α × List α) (h1 : st.1.length = 2 ^ p) (h2 : st.2.length = 2 ^ p) :
  intoG O (bitsG p) p tab st = recG O tw p st := by
 rw [← stages_rec O tw hp st h1 h2]
 unfold intoG stages
 rw [swap_gather O _ _ (by rw [h1]; exact inv_bits hp), swap_gather O _ _ (by rw [h2]; exact inv_bits hp)]
 refine loopN_congr _ _ fun q hq s => ?_
 exact stageG_congr O _ _ (fun k hk => ht q k hq hk) s
end M2
namespace W1
open Ieee Go Gp Gq Gr W0
structure Nm (x : Nat) : Prop where
 lt : x < 2 * sgnW
 fin : frung x < infR
 cl : cn x = x
theorem nm_zero : Nm 0 := ⟨by decide, by decide, cn_zero⟩
def R (v : Int) (s : Nat) : Nat := cn (double.word (decide (v < 0)) (min (rung v.natAbs s) infR))
theorem signed_V {x : Nat} (b : Int) (hb : -1074 ≤ b) (h : b ≤ (plc (frung x) : Int) - 1074) :
  signed (fneg x) (sig (frung x)) ((plc (frung x) : Int) - 1074 - b).toNat * 2 ^ (b + 1074).toNat = V x := by
 rw [signed_sv, ← sv_mul, V_sv, Nat.mul_assoc, ← Nat.pow_add, (rung_split (frung x)).2.2.2,
  show ((plc (frung x) : Int) - 1074 - b).toNat + (b + 1074).toNat = plc (frung x) from by omega]
theorem told_num (s : Bool) {m : Nat} (h : m ≠ 0) (p : Int) : told (some (.number s m p)) = cn (double.word s (min (rung (toX m p) (toS p)) infR)) := by
 show cn (double.nearest s m p) = _
 rw [nearest_rung s m p h]
theorem told_num0 (s : Bool) (p : Int) : told (some (.number s 0 p)) = 0 := by
 show cn (double.nearest s 0 p) = _
 unfold Format.nearest
 rw [if_pos rfl, word_parts s (Nat.zero_le _), if_pos rfl]
theorem R_zero (s : Nat) : R 0 s = 0 := by
 unfold R
 rw [show rung (0 : Int).natAbs s = 0 from by unfold rung; simp]
 decide
theorem sum_num (s1 s2 : Bool) (m1 m2 : Nat) (p1 p2 : Int) (h1 : -1074 ≤ p1) (h2 : -1074 ≤ p2) (v1 v2 : Int)
  (e1 : signed s1 m1 (p1 - min p1 p2).toNat * 2 ^ (min p1 p2 + 1074).toNat = v1) (e2 : signed s2 m2 (p2 - min p1 p2).toNat * 2 ^ (min p1 p2 + 1074).toNat = v2) :
  told ((Datum.number s1 m1 p1).sum (Datum.number s2 m2 p2)) = R (v1 + v2) 0 := by
 simp only [Datum.sum]
 obtain ⟨b, hb⟩ : ∃ b, b = min p1 p2 := ⟨_, rfl⟩
 rw [← hb] at e1 e2 ⊢
 have hb0 : -1074 ≤ b := by omega
 generalize signed s1 m1 (p1 - b).toNat = a at *
 generalize signed s2 m2 (p2 - b).toNat = c at *
 subst e1; subst e2
 rw [← Int.add_mul]
 generalize a + c = t
 have hpos : (0 : Int) < 2 ^ (b + 1074).toNat := by exact Int.pow_pos (by decide)
 by_cases h0 : t = 0
 ·subst h0
  rw [Int.natAbs_zero, told_num0, Int.zero_mul, R_zero]
 ·rw [if_neg h0, told_num _ (by omega)]
  unfold R
  have e3 : decide (t * 2 ^ (b + 1074).toNat < 0) = decide (t < 0) := by
   by_cases ht : t < 0
   ·rw [decide_eq_true ht, decide_eq_true (Int.mul_neg_of_neg_of_pos ht hpos)]
   ·rw [decide_eq_false ht, decide_eq_false (by have := Int.mul_nonneg (show 0 ≤ t by omega) (Int.le_of_lt hpos); omega)]
  rw [e3, show toS b = 0 from by unfold toS; omega, show toX t.natAbs b = (t * 2 ^ (b + 1074).toNat).natAbs from by
   unfold toX; rw [Int.natAbs_mul, Int.natAbs_pow]; rfl]
theorem fadd_fin {x y : Nat} (hx : Nm x) (hy : Nm y) : fadd x y = R (V x + V y) 0 := by
 unfold fadd
 rw [read_fin hx.lt hx.fin, read_fin hy.lt hy.fin]
 exact sum_num _ _ _ _ _ _ (by omega) (by omega) _ _ (signed_V _ (by omega) (by omega)) (signed_V _ (by omega) (by omega))
theorem signed_neg (s : Bool) (m k : Nat) : signed (!s) m k = - signed s m k := by
 rw [signed_sv, signed_sv]; unfold sv; cases s <;> simp
theorem fsub_fin {x y : Nat} (hx : Nm x) (hy : Nm y) : fsub x y = R (V x - V y) 0 := by
 unfold fsub
 rw [read_fin hx.lt hx.fin, read_fin hy.lt hy.fin]
 rw [Int.sub_eq_add_neg]
 refine sum_num _ _ _ _ _ _ (by omega) (by omega) _ _ (signed_V _ (by omega) (by omega)) ?_
 rw [signed_neg, Int.neg_mul, signed_V _ (by omega) (by omega)]
theorem fmul_fin' {x y c : Nat} (hc : c = 1074) (hx : Nm x) (hy : Nm y) : fmul x y = R (V x * V y) c := by
 unfold fmul
 rw [read_fin hx.lt hx.fin, read_fin hy.lt hy.fin]
 simp only [Datum.product]
 have e1 := (rung_split (frung x)).2.2.2
 have e2 := (rung_split (frung y)).2.2.2
 have ev : (V x * V y).natAbs = sig (frung x) * sig (frung y) * 2 ^ (plc (frung x) + plc (frung y)) := by
  rw [V_sv, V_sv, Int.natAbs_mul, sv_abs, sv_abs, e1, e2, Nat.pow_add]
  rw [Nat.mul_assoc, Nat.mul_left_comm (2 ^ _), ← Nat.mul_assoc]
 have es : (V x * V y).natAbs ≠ 0 → decide (V x * V y < 0) = (fneg x ^^ fneg y) := fun h0 => by
  rw [V_sv, V_sv] at h0 ⊢
  generalize mag (frung x) = a at *
  generalize mag (frung y) = b at *
  rw [Int.natAbs_mul, sv_abs, sv_abs] at h0
  have h1 : (0 : Int) < (a : Int) * b := by
   have : (0 : Int) < ((a * b : Nat) : Int) := by exact_mod_cast Nat.pos_of_ne_zero h0
   rw [Int.natCast_mul] at this; exact this
  unfold sv
  cases fneg x <;> cases fneg y <;> simp [Int.neg_mul, Int.mul_neg] <;> omega
 generalize sig (frung x) * sig (frung y) = m at *
 generalize plc (frung x) = p at *
 generalize plc (frung y) = q at *
 by_cases h0 : m = 0
 ·subst h0
  rw [told_num0]
  have : V x * V y = 0 := by rw [Nat.zero_mul] at ev; omega
  rw [this, R_zero]
 ·rw [told_num _ h0]
  have hv : (V x * V y).natAbs ≠ 0 := by rw [ev]; exact Nat.mul_ne_zero h0 (Nat.ne_of_gt (Nat.two_pow_pos _))
  unfold R
  rw [es hv, ev]
  congr 3
  unfold toX toS
  by_cases hp : 0 ≤ (p : Int) - 1074 + (q - 1074) + 1074
  ·rw [show (-1074 - ((p : Int) - 1074 + (q - 1074))).toNat = 0 from by omega]
   rw [← rung_scale _ 0 c, Nat.zero_add, Nat.mul_assoc, ← Nat.pow_add]
   congr 3; omega
  ·rw [show ((p : Int) - 1074 + (q - 1074) + 1074).toNat = 0 from by omega, Nat.pow_zero, Nat.mul_one]
   rw [← rung_scale m _ (p + q), show (-1074 - ((p : Int) - 1074 + (q - 1074))).toNat + (p + q) = c from by omega]
theorem fmul_fin {x y : Nat} (hx : Nm x) (hy : Nm y) : fmul x y = R (V x * V y) 1074 := fmul_fin' rfl hx hy
theorem R_facts (v : Int) (s : Nat) : R v s < 2 * sgnW ∧ cn (R v s) = R v s ∧ frung (R v s) = min (rung v.natAbs s) infR := by
 have hl : min (rung v.natAbs s) infR < sgnW := Nat.lt_of_le_of_lt (Nat.min_le_right _ _) infR_lt
 refine ⟨cn_lt (word_lt2 _ hl), cn_idem _, ?_⟩
 unfold R
 rw [word_parts _ (Nat.min_le_right _ _)]
 split
 ·rename_i h; rw [h]; decide
 ·exact (word_neg _ hl).2
theorem R_nm {v : Int} {s : Nat} (h : rung v.natAbs s < infR) : Nm (R v s) := by
 obtain ⟨h1, h2, h3⟩ := R_facts v s
 exact ⟨h1, by rw [h3]; omega, h2⟩
theorem V_R (v : Int) (s : Nat) : V (R v s) = sv (decide (v < 0)) (mag (min (rung v.natAbs s) infR)) := by
 have hl : min (rung v.natAbs s) infR < sgnW := Nat.lt_of_le_of_lt (Nat.min_le_right _ _) infR_lt
 unfold R
 rw [word_parts _ (Nat.min_le_right _ _)]
 split
 ·rename_i h; rw [h, mag_zero]; unfold sv; cases decide (v < 0) <;> decide
 ·exact V_word _ hl
theorem sv_self (v : Int) : sv (decide (v < 0)) v.natAbs = v := by
 unfold sv; by_cases h : v < 0 <;> simp [h] <;> omega
theorem V_exact {v : Int} {s r : Nat} (h : v.natAbs = mag r * 2 ^ s) (hr : r ≤ infR) : V (R v s) * 2 ^ s = v := by
 rw [V_R, h, rung_exact, Nat.min_eq_left hr, ← sv_mul, ← h, sv_self]
theorem R_exact {v : Int} {s r : Nat} (h : v.natAbs = mag r * 2 ^ s) (hr : r < infR) : Nm (R v s) ∧ V (R v s) * 2 ^ s = v :=
 ⟨R_nm (by rw [h, rung_exact]; exact hr), V_exact h (Nat.le_of_lt hr)⟩
theorem nm_inj {x y : Nat} (hx : Nm x) (hy : Nm y) (h : V x = V y) : x = y := by
 by_cases h0 : frung x = 0
 ·have h1 : frung y = 0 := V_zero_iff.1 (h ▸ V_zero_iff.2 h0)
  have a := hx.cl; have b := hy.cl
  unfold cn at a b
  rw [if_neg (by rw [h0]; decide), if_pos h0] at a
  rw [if_neg (by rw [h1]; decide), if_pos h1] at b
  omega
 ·exact V_inj hx.lt hy.lt h h0
theorem V_abs (x : Nat) : (V x).natAbs = mag (frung x) := by rw [V_sv, sv_abs]
theorem R_self {x : Nat} (hx : Nm x) : R (V x) 0 = x := by
 obtain ⟨h1, h2⟩ := R_exact (v := V x) (s := 0) (r := frung x) (by rw [V_abs]; simp) hx.fin
 exact nm_inj h1 hx (by simpa using h2)
theorem fng_facts {x : Nat} (hx : Nm x) : Nm (fng x) ∧ V (fng x) = - V x := by
 have e := xor_top' x hx.lt
 have hl := (word_split hx.lt).2
 have hf : fng x = cn (double.word (!fneg x) (frung x)) := by unfold fng; rw [e]
 rw [word_parts _ (Nat.le_of_lt hx.fin)] at hf
 by_cases h0 : frung x = 0
 ·rw [if_pos h0] at hf
  rw [hf, V_zero_iff.2 h0]
  exact ⟨nm_zero, by decide⟩
 ·rw [if_neg h0] at hf
  refine ⟨⟨fng_lt hx.lt, ?_, cn_fng x⟩, ?_⟩
  ·rw [hf, (word_neg _ hl).2]; exact hx.fin
  ·rw [hf, V_word _ hl, V_sv]; unfold sv; cases fneg x <;> simp
end W1
namespace W2
open Ieee Go Gp Gq Gr W0 W1
def P2 (e : Nat) : Nat := e * bn
theorem mag_P2 {e c : Nat} (hc : c = e - 1) (h : 1 ≤ e) : mag (P2 e) = 2 ^ (52 + c) := by
 subst hc
 have := mag_at (e - 1) bn (by unfold bn; omega) (.inr (Nat.le_refl _))
 rw [show (e - 1) * bn + bn = P2 e from by unfold P2; rw [← Nat.succ_mul, Nat.succ_eq_add_one, Nat.sub_add_cancel h]] at this
 rw [this, bn_eq, ← Nat.pow_add]
theorem P2_facts {e : Nat} (h : 1 ≤ e) (h2 : e ≤ 2046) : Nm (P2 e) ∧ frung (P2 e) = P2 e := by
 have hb : P2 e < infR := by unfold P2 infR bn; omega
 have hl : P2 e < sgnW := Nat.lt_trans hb infR_lt
 have hf : frung (P2 e) = P2 e := Nat.mod_eq_of_lt hl
 refine ⟨⟨by omega, by rw [hf]; exact hb, ?_⟩, hf⟩
 unfold cn
 rw [hf, if_neg (by omega), if_neg (by unfold P2 bn; omega)]
theorem V_P2 {e c : Nat} (hc : c = e + 51) (h : 1 ≤ e) (h2 : e ≤ 2046) : V (P2 e) = 2 ^ c := by
 obtain ⟨hn, hf⟩ := P2_facts h h2
 have hl : P2 e < sgnW := by have := hn.fin; rw [hf] at this; exact Nat.lt_trans this infR_lt
 rw [V_pos_word hl, mag_P2 rfl h, show 52 + (e - 1) = c from by omega]
 push_cast; rfl
theorem R_scale (v : Int) (s k : Nat) : R (v * 2 ^ k) (s + k) = R v s := by
 unfold R
 rw [Int.natAbs_mul, show ((2 : Int) ^ k).natAbs = 2 ^ k from by rw [Int.natAbs_pow]; rfl, rung_scale]
 have hpos : (0 : Int) < 2 ^ k := Int.pow_pos (by decide)
 have e3 : decide (v * 2 ^ k < 0) = decide (v < 0) := by
  by_cases ht : v < 0
  ·rw [decide_eq_true ht, decide_eq_true (Int.mul_neg_of_neg_of_pos ht hpos)]
  ·rw [decide_eq_false ht, decide_eq_false (by have := Int.mul_nonneg (show 0 ≤ v by omega) (Int.le_of_lt hpos); omega)]
 rw [e3]
theorem fmul_up {x p : Nat} (hx : Nm x) (hp : p ≤ 1023) : fmul x (P2 (1023 + p)) = R (V x * 2 ^ p) 0 := by
 rw [fmul_fin hx (P2_facts (by omega) (by omega)).1, V_P2 (c := p + 1074) (by omega) (by omega) (by omega), Int.pow_add, ← Int.mul_assoc]
 have := R_scale (V x * 2 ^ p) 0 1074
 rwa [Nat.zero_add] at this
end W2
namespace M3
open Gp W0 W1 W2 M0 M1 M2
def opsN : Ops Nat := ⟨fadd, fsub, fmul, fng, fun n => n⟩
theorem two_pow (p : Nat) : 2 ^ (p + 1) = 2 * 2 ^ p := by rw [Nat.pow_succ, Nat.mul_comm]
end M3
namespace W4
open Ieee Go Go.RowKit Go.Proofs Go.Proofs.YtalbgklfhabnkaaGreatDoor Ow Dt Gp W0 M0 M1 M3
structure Fz (w : World) (b : Nat) (X : List Nat) : Prop where
 out : ∃ cs : List Value, Blk w b 22 cs ∧ ∀ j, j < X.length → ∃ v, cs[j]? = some v ∧ Fc v (nthN X j)
theorem Fz.bel {w w' : World} {b : Nat} {X : List Nat} (h : Fz w b X) (g : Bel w w') : Fz w' b X := by
 obtain ⟨cs, h1, h2⟩ := h.out; exact ⟨cs, h1.bel g, h2⟩
theorem Fz.lt {w : World} {b : Nat} {X : List Nat} (h : Fz w b X) : b < w.heap.size := by obtain ⟨cs, h1, _⟩ := h.out; exact h1.lt
theorem Fz.far {w : World} {b : Nat} {X : List Nat} (h : Fz w b X) {p : Addr} (hp : b ≠ p.block) (v : Value) : Fz (w.setCell p v) b X := by
 obtain ⟨cs, h1, h2⟩ := h.out; exact ⟨cs, h1.far hp v, h2⟩
theorem Fz.at_ {w : World} {b : Nat} {X : List Nat} (h : Fz w b X) {i : Nat} (hi : i < X.length) : ∃ r, w.cell? ⟨b, i, none⟩ = some (.float .f64 r) ∧ r < 2 * sgnW ∧ cn r = nthN X i := by
 obtain ⟨cs, h1, h2⟩ := h.out
 obtain ⟨v, hv, r, rfl, k1, k2⟩ := h2 i hi
 exact ⟨r, h1.cell hv, k1, k2⟩
theorem Fz.free {w : World} {b : Nat} {X : List Nat} (h : Fz w b X) (i : Nat) : w.frozen? ⟨b, i, none⟩ = false := by
 obtain ⟨cs, h1, _⟩ := h.out; exact h1.free i
theorem Fz.set {w : World} {b : Nat} {X : List Nat} (h : Fz w b X) (i : Nat) {r x : Nat} (hr : r < 2 * sgnW) (hx : cn r = x) : Fz (w.setCell ⟨b, i, none⟩ (.float .f64 r)) b (X.set i x) := by
 obtain ⟨cs, h1, h2⟩ := h.out
 refine ⟨cs.set i (.float .f64 r), h1.set i _, fun j hj => ?_⟩
 rw [List.length_set] at hj
 obtain ⟨v, hv, hf⟩ := h2 j hj
 have hjc : j < cs.length := (List.getElem?_eq_some_iff.1 hv).1
 rw [nthN_set]
 by_cases e : i = j
 ·subst e
  refine ⟨.float .f64 r, by rw [List.getElem?_set]; simp [hjc], ?_⟩
  rw [if_pos ⟨rfl, hj⟩]
  exact ⟨r, rfl, hr, hx⟩
 ·refine ⟨v, by rw [List.getElem?_set, if_neg e]; exact hv, ?_⟩
  rw [if_neg (fun q => e q.1)]; exact hf
theorem Fz.fr {w : World} {b : Nat} {X : List Nat} (h : Fz w b X) (hm : X.length ≤ 35184372088831) : Fr w (some ⟨b, 0, none⟩) X :=
 ⟨hm, fun j hj => by
  obtain ⟨r, hc, k1, k2⟩ := h.at_ hj
  exact ⟨_, _, rfl, by rw [add_lit, Nat.zero_add]; exact hc, r, rfl, k1, k2⟩⟩
structure Gr2 (b c : Nat) (w w' : World) : Prop where
 os : w'.os = w.os
 tape : w'.tape = w.tape
 output : w'.output = w.output
 size : w.heap.size ≤ w'.heap.size
 block : ∀ k, k < w.heap.size → k ≠ b → k ≠ c → w'.heap[k]? = w.heap[k]?
theorem Gr2.refl (b c : Nat) (w : World) : Gr2 b c w w := ⟨rfl, rfl, rfl, Nat.le_refl _, fun _ _ _ _ => rfl⟩
theorem Gr2.trans {b c : Nat} {u v w : World} (h : Gr2 b c u v) (k : Gr2 b c v w) : Gr2 b c u w :=
 ⟨k.os.trans h.os, k.tape.trans h.tape, k.output.trans h.output, Nat.le_trans h.size k.size, fun i hi n1 n2 => (k.block i (Nat.lt_of_lt_of_le hi h.size) n1 n2).trans (h.block i hi n1 n2)⟩
theorem gr2_bel {w w' : World} (h : Bel w w') (b c : Nat) : Gr2 b c w w' := ⟨h.out.os, h.out.tape, h.out.output, h.out.size, fun k hk _ _ => h.out.block k hk⟩
theorem Gr2.tb {b c : Nat} {u v w : World} (h : Gr2 b c u v) (k : Bel v w) : Gr2 b c u w := h.trans (gr2_bel k b c)
theorem Gr2.alloc {b c : Nat} {u v : World} (h : Gr2 b c u v) (o : Obj) : Gr2 b c u (v.alloc o) := h.tb ((Bel.refl v).alloc o)
theorem Gr2.drew {b c : Nat} {u v : World} (h : Gr2 b c u v) : Gr2 b c u v.drew := h.tb (Bel.refl v).drew
theorem Gr2.set {b c : Nat} {u v : World} (h : Gr2 b c u v) {p : Addr} (hp : p.block = b ∨ p.block = c) (x : Value) : Gr2 b c u (v.setCell p x) :=
 h.trans ⟨rfl, rfl, rfl, by simp [World.setCell], fun k _ n1 n2 => Below.heap_setCell _ _ _ _ (by rcases hp with e | e <;> rw [e] <;> assumption)⟩
theorem Gr2.setNew {b c : Nat} {u v : World} (h : Gr2 b c u v) {p : Addr} (hp : u.heap.size ≤ p.block) (x : Value) : Gr2 b c u (v.setCell p x) :=
 ⟨h.os, h.tape, h.output, by have := h.size; simpa [World.setCell] using this, fun k hk n1 n2 => (Below.heap_setCell _ _ _ _ (by omega)).trans (h.block k hk n1 n2)⟩
theorem Gr2.blk {b c : Nat} {w w' : World} (h : Gr2 b c w w') {b' : Nat} {t : TypeId} {cs : List Value} (k : Blk w b' t cs) (n1 : b' ≠ b) (n2 : b' ≠ c) : Blk w' b' t cs := ⟨by rw [h.block b' k.lt n1 n2]; exact k.out⟩
theorem Gr2.of1 {b c : Nat} {w w' : World} (h : Gr b w w') : Gr2 b c w w' := ⟨h.os, h.tape, h.output, h.size, fun k hk n1 _ => h.block k hk n1⟩
theorem Gr2.of2 {b c : Nat} {w w' : World} (h : Gr c w w') : Gr2 b c w w' := ⟨h.os, h.tape, h.output, h.size, fun k hk _ n2 => h.block k hk n2⟩
theorem Gr2.tab {b c : Nat} {w w' : World} (h : Gr2 b c w w') (T : Tab w) (n1 : 1 ≠ b) (n2 : 1 ≠ c) : Tab w' :=
 ⟨fun i hi => by have := T.cell i hi; unfold World.cell? at this ⊢; rw [h.block 1 (I4.Tab.lt T) n1 n2]; exact this⟩
theorem Gr2.bel {b c : Nat} {u w w' : World} (h : Gr2 b c w w') (k : Bel u w) (hb : u.heap.size ≤ b) (hc : u.heap.size ≤ c) : Bel u w' :=
 ⟨k.out.trans ⟨h.os, h.tape, h.output, h.size, fun i hi => h.block i (by have := k.size; omega) (by omega) (by omega)⟩⟩
theorem gr_fz {b : Nat} {w w' : World} (h : Gr b w w') {b' : Nat} {X : List Nat} (k : Fz w b' X) (n1 : b' ≠ b) : Fz w' b' X := by
 obtain ⟨cs, h1, h2⟩ := k.out; exact ⟨cs, h.blk h1 n1, h2⟩
end W4
namespace W5
open Ieee Go Go.RowKit Go.Proofs Go.Proofs.YtalbgklfhabnkaaGreatDoor Ow Dt Gp W0 S4 M0 M1 M3 W4
attribute [local go_sem ↓] Go.wp_at_zero Go.wp_at_succ
structure RowF (w : World) (B : Nat) (v : Value) (X : List Nat) : Prop where
 out : ∃ A c, v = .slice A X.length c ∧ X.length ≤ c ∧ c ≤ 9223372036854775807 ∧ (X.length = 0 ∨ ∃ b, A = some ⟨b, 0, none⟩ ∧ Fz w b X ∧ B ≤ b)
theorem RowF.bel {w w' : World} {B : Nat} {v : Value} {X : List Nat} (h : RowF w B v X) (g : Bel w w') : RowF w' B v X := by
 obtain ⟨A, c, h1, h2, h3, h4⟩ := h.out
 exact ⟨A, c, h1, h2, h3, h4.imp id fun ⟨b, e, f, l⟩ => ⟨b, e, f.bel g, l⟩⟩
theorem RowF.mono {w : World} {B B' : Nat} {v : Value} {X : List Nat} (h : RowF w B v X) (g : B' ≤ B) : RowF w B' v X := by
 obtain ⟨A, c, h1, h2, h3, h4⟩ := h.out
 exact ⟨A, c, h1, h2, h3, h4.imp id fun ⟨b, e, f, l⟩ => ⟨b, e, f, Nat.le_trans g l⟩⟩
theorem RowF.at_ {w : World} {B : Nat} {v : Value} {X : List Nat} (h : RowF w B v X) (hp : 0 < X.length) : ∃ b c, v = .slice (some ⟨b, 0, none⟩) X.length c ∧ X.length ≤ c ∧ c ≤ 9223372036854775807 ∧ Fz w b X ∧ B ≤ b := by
 obtain ⟨A, c, h1, h2, h3, h4⟩ := h.out
 rcases h4 with h4 | ⟨b, rfl, f, l⟩
 ·omega
 ·exact ⟨b, c, h1, h2, h3, f, l⟩
theorem RowF.nil (w : World) (B : Nat) (A : Option Addr) (c : Nat) (hc : c ≤ 9223372036854775807) : RowF w B (.slice A 0 c) [] := ⟨A, c, rfl, Nat.zero_le _, hc, .inl rfl⟩
theorem RowF.of {w : World} {B b c : Nat} {X : List Nat} (h : Fz w b X) (hB : B ≤ b) (hc : X.length ≤ c) (hc2 : c ≤ 9223372036854775807) : RowF w B (.slice (some ⟨b, 0, none⟩) X.length c) X := ⟨_, c, rfl, hc, hc2, .inr ⟨b, rfl, h, hB⟩⟩
theorem RowF.far {w : World} {B : Nat} {u : Value} {X : List Nat} (h : RowF w B u X) {p : Addr} (hp : p.block < B) (v : Value) : RowF (w.setCell p v) B u X := by
 obtain ⟨A, c, h1, h2, h3, h4⟩ := h.out
 exact ⟨A, c, h1, h2, h3, h4.imp id fun ⟨b, e, f, l⟩ => ⟨b, e, f.far (by omega) v, l⟩⟩
theorem RowF.fr {w : World} {B : Nat} {v : Value} {X : List Nat} (h : RowF w B v X) (hm : X.length ≤ 35184372088831) : ∃ A c, v = .slice A X.length c ∧ X.length ≤ c ∧ Fr w A X := by
 obtain ⟨A, c, h1, h2, h3, h4⟩ := h.out
 refine ⟨A, c, h1, h2, ?_⟩
 rcases h4 with h4 | ⟨b, rfl, f, l⟩
 ·obtain rfl := List.length_eq_zero_iff.1 h4; exact Fr.nil _ _
 ·exact f.fr hm
theorem Fr.news {w : World} {ad : Addr} {X : List Nat} (h : Fr w (some ad) X) : ∃ cs : List Value, cs.length = X.length ∧ (∀ j u, cs[j]? = some u → w.cell? (ad.add j) = some u) ∧ (∀ j u, cs[j]? = some u → Fc u (nthN X j)) := by
 have key : ∀ j, j < X.length → ∃ v, w.cell? (ad.add j) = some v ∧ Fc v (nthN X j) := fun j hj => by
  obtain ⟨ad', v, e, hc, k⟩ := h.cell j hj
  cases e; exact ⟨v, hc, k⟩
 have pick : ∀ n, n ≤ X.length → ∃ cs : List Value, cs.length = n ∧ (∀ j u, cs[j]? = some u → w.cell? (ad.add j) = some u) ∧ (∀ j u, cs[j]? = some u → Fc u (nthN X j)) := by
  intro n
  induction n with
  | zero => exact fun _ => ⟨[], rfl, fun j u hu => by simp at hu, fun j u hu => by simp at hu⟩
  | succ n ih =>
   intro hn
   obtain ⟨cs, h1, h2, h3⟩ := ih (by omega)
   obtain ⟨v, hv, hf⟩ := key n (by omega)
   have app : ∀ j u, (cs ++ [v])[j]? = some u → (cs[j]? = some u) ∨ (j = n ∧ u = v) := fun j u hu => by
    rw [List.getElem?_append] at hu
    split at hu
    ·exact .inl hu
    ·rename_i hge
     rcases hz : j - cs.length with _ | k
     ·rw [hz] at hu; simp at hu; exact .inr ⟨by omega, hu.symm⟩
     ·rw [hz] at hu; simp at hu
   refine ⟨cs ++ [v], by simp [h1], fun j u hu => ?_, fun j u hu => ?_⟩
   ·rcases app j u hu with q | ⟨rfl, rfl⟩
    ·exact h2 j u q
    ·exact hv
   ·rcases app j u hu with q | ⟨rfl, rfl⟩
    ·exact h3 j u q
    ·exact hf
 exact pick X.length (Nat.le_refl _)
end W5
namespace Yh
open Ieee Go Go.RowKit Go.Proofs Go.Proofs.YtalbgklfhabnkaaGreatDoor Ow Dt Gp W0 S4 M0 M1 M3 W4 W5
inductive Ent where
 | blk (b : Nat) (t : TypeId) (cs : List Value)
 | row (b : Nat) (X : List Nat)
 | whole (b : Nat) (X : List Nat)
def Ent.b : Ent → Nat
 | .blk b _ _ => b
 | .row b _ => b
 | .whole b _ => b
def Ent.ok (w : World) : Ent → Prop
 | .blk b t cs => Blk w b t cs
 | .row b X => Fz w b X
 | .whole b X => Fk w b X
theorem Ent.ok.lt {w : World} {e : Ent} (h : e.ok w) : e.b < w.heap.size := by
 cases e with
 | blk b t cs => exact Blk.lt h
 | row b X => exact Fz.lt h
 | whole b X => exact Fk.lt h
theorem Ent.ok.same {w w' : World} {e : Ent} (h : e.ok w) (g : w'.heap[e.b]? = w.heap[e.b]?) : e.ok w' := by
 cases e with
 | blk b t cs => exact ⟨(show w'.heap[b]? = _ from g).trans (show Blk w b t cs from h).out⟩
 | row b X =>
  obtain ⟨cs, h1, h2⟩ := (show Fz w b X from h).out
  exact ⟨cs, ⟨(show w'.heap[b]? = _ from g).trans h1.out⟩, h2⟩
 | whole b X =>
  obtain ⟨cs, h1, h2⟩ := (show Fk w b X from h).out
  exact ⟨cs, ⟨(show w'.heap[b]? = _ from g).trans h1.out⟩, h2⟩
structure Hp (W0 w : World) (L : List Ent) : Prop where
 bel : Bel W0 w
 ge : ∀ e ∈ L, W0.heap.size ≤ e.b
 nd : (L.map Ent.b).Nodup
 ok : ∀ e ∈ L, e.ok w
theorem Hp.nil {W0 w : World} (g : Bel W0 w) : Hp W0 w [] := ⟨g, fun _ h => (List.not_mem_nil h).elim, List.nodup_nil, fun _ h => (List.not_mem_nil h).elim⟩
section
variable {W0 w w' : World} {L : List Ent} {b b' k : Nat} {t : TypeId} {cs : List Value} {X Y : List Nat} {e e' : Ent} {v : Value}
theorem Hp.get (h : Hp W0 w L) (i : Nat) (hi : L[i]? = some e) : e.ok w := h.ok e (List.mem_of_getElem? hi)
theorem Hp.blk (h : Hp W0 w L) (i : Nat) (hi : L[i]? = some (.blk b t cs)) : Blk w b t cs := h.get i hi
theorem Hp.row (h : Hp W0 w L) (i : Nat) (hi : L[i]? = some (.row b X)) : Fz w b X := h.get i hi
theorem Hp.whole (h : Hp W0 w L) (i : Nat) (hi : L[i]? = some (.whole b X)) : Fk w b X := h.get i hi
theorem Hp.geI (h : Hp W0 w L) (i : Nat) (hi : L[i]? = some e) : W0.heap.size ≤ e.b := h.ge e (List.mem_of_getElem? hi)
theorem Hp.ltI (h : Hp W0 w L) (i : Nat) (hi : L[i]? = some e) : e.b < w.heap.size := (h.get i hi).lt
theorem nd_ne {l : List Nat} (h : l.Nodup) {i j : Nat} {x y : Nat} (hi : l[i]? = some x) (hj : l[j]? = some y) (hij : i ≠ j) : x ≠ y := by
 obtain ⟨h1, rfl⟩ := List.getElem?_eq_some_iff.1 hi
 obtain ⟨h2, rfl⟩ := List.getElem?_eq_some_iff.1 hj
 intro q
 exact hij ((List.getElem_inj h).1 q)
theorem Hp.ne (h : Hp W0 w L) (i j : Nat) (hi : L[i]? = some e) (hj : L[j]? = some e') (hij : i ≠ j := by decide) : e.b ≠ e'.b :=
 nd_ne h.nd (i := i) (j := j) (by rw [List.getElem?_map, hi]; rfl) (by rw [List.getElem?_map, hj]; rfl) hij
theorem Hp.lt (h : Hp W0 w L) : ∀ e ∈ L, e.b < w.heap.size := fun e he => (h.ok e he).lt
theorem Hp.grow (h : Hp W0 w L) (g : Bel w w') : Hp W0 w' L := ⟨h.bel.trans g, h.ge, h.nd, fun e he => (h.ok e he).same (g.block (h.lt e he))⟩
theorem Hp.drew (h : Hp W0 w L) : Hp W0 w.drew L := h.grow (Bel.refl w).drew
theorem Hp.new (h : Hp W0 w L) (g : Bel w w') (k : e.ok w') (hb : w.heap.size ≤ e.b) : Hp W0 w' (e :: L) := by
 have h' := h.grow g
 have s := h.bel.size
 refine ⟨h'.bel, ?_, ?_, ?_⟩
 ·intro x hx
  rcases List.mem_cons.1 hx with rfl | hx
  ·omega
  ·exact h.ge x hx
 ·simp only [List.map_cons, List.nodup_cons]
  refine ⟨fun q => ?_, h.nd⟩
  obtain ⟨x, hx, hxe⟩ := List.mem_map.1 q
  have := h.lt x hx
  omega
 ·intro x hx
  rcases List.mem_cons.1 hx with rfl | hx
  ·exact k
  ·exact h'.ok x hx
theorem Hp.box (h : Hp W0 w L) (cs : List Value) (t : TypeId) : Hp W0 (w.alloc (.cells cs.toArray t)) (.blk w.heap.size t cs :: L) := h.new (e := .blk w.heap.size t cs) ((Bel.refl w).alloc _) (Blk.new w cs t) (Nat.le_refl _)
theorem Hp.turn (h : Hp W0 w L) (i : Nat) (hi : L[i]? = some e) (os : w'.os = w.os) (tp : w'.tape = w.tape) (ou : w'.output = w.output) (sz : w.heap.size ≤ w'.heap.size) (bl : ∀ k, k < w.heap.size → k ≠ e.b → w'.heap[k]? = w.heap[k]?)
    (e' : Ent) (hb : e'.b = e.b) (k : e'.ok w') : Hp W0 w' (L.set i e') := by
  have hlen := (List.getElem?_eq_some_iff.1 hi).1
  have hge := h.geI i hi
  refine ⟨⟨h.bel.out.trans ⟨os, tp, ou, sz, fun j hj => bl j (Nat.lt_of_lt_of_le hj h.bel.size) (by omega)⟩⟩, ?_, ?_, ?_⟩
  · intro x hx
    rcases List.mem_or_eq_of_mem_set hx with hx | rfl
    · exact h.ge x hx
    · omega
  · have : (L.set i e').map Ent.b = L.map Ent.b := by
      rw [List.map_set, hb]
      apply List.ext_getElem?
      intro j
      rw [List.getElem?_set]
      split
      · rename_i q; subst q
        rw [List.getElem?_map, hi]; simp [hlen]
      · rfl
    rw [this]; exact h.nd
  · intro x hx
    obtain ⟨j, hj⟩ := List.mem_iff_getElem?.1 hx
    rw [List.getElem?_set] at hj
    split at hj
    · first
      | (split at hj
         · cases hj; exact k
         · cases hj)
      | (cases hj; exact k)
    · rename_i q
      have hx' := List.mem_of_getElem? hj
      exact (h.ok x hx').same (bl x.b (h.lt x hx') (Ne.symm (h.ne i j hi hj q)))
theorem Hp.set (h : Hp W0 w L) (i : Nat) (hi : L[i]? = some (.blk b t cs)) (k : Nat) (v : Value) : Hp W0 (w.setCell ⟨b, k, none⟩ v) (L.set i (.blk b t (cs.set k v))) :=
 h.turn (w' := w.setCell ⟨b, k, none⟩ v) i hi rfl rfl rfl (by simp [World.setCell]) (fun j _ hj => Below.heap_setCell w ⟨b, k, none⟩ v j hj) (.blk b t (cs.set k v)) rfl ((h.blk i hi).set k v)
theorem Hp.setF (h : Hp W0 w L) (i : Nat) (hi : L[i]? = some (.row b X)) (k : Nat) {r x : Nat} (hr : r < 2 * sgnW) (hx : cn r = x) : Hp W0 (w.setCell ⟨b, k, none⟩ (.float .f64 r)) (L.set i (.row b (X.set k x))) :=
 h.turn (w' := w.setCell ⟨b, k, none⟩ (.float .f64 r)) i hi rfl rfl rfl (by simp [World.setCell]) (fun j _ hj => Below.heap_setCell w ⟨b, k, none⟩ _ j hj) (.row b (X.set k x)) rfl ((h.row i hi).set k hr hx)
theorem Hp.gr (h : Hp W0 w L) (i : Nat) (hi : L[i]? = some (.row b X)) (g : Gr b w w') (k : Fz w' b Y) : Hp W0 w' (L.set i (.row b Y)) :=
 h.turn i hi g.os g.tape g.output g.size (fun j hj hn => g.block j hj hn) (.row b Y) rfl k
theorem Hp.comb {W1 : World} {M : List Ent} (h : Hp W0 W1 L) (g : Hp W1 w M) : Hp W0 w (M ++ L) := by
 have h' := h.grow g.bel
 have s := h.bel.size
 refine ⟨h'.bel, ?_, ?_, ?_⟩
 ·intro x hx
  rcases List.mem_append.1 hx with hx | hx
  ·exact Nat.le_trans s (g.ge x hx)
  ·exact h.ge x hx
 ·rw [List.map_append, List.nodup_append]
  refine ⟨g.nd, h.nd, fun x hx y hy => ?_⟩
  obtain ⟨a, ha, rfl⟩ := List.mem_map.1 hx
  obtain ⟨c, hc, rfl⟩ := List.mem_map.1 hy
  have := g.ge a ha
  have := h.lt c hc
  omega
 ·intro x hx
  rcases List.mem_append.1 hx with hx | hx
  ·exact g.ok x hx
  ·exact h'.ok x hx
theorem Hp.pick {M : List Ent} (h : Hp W0 w L) (is : List Nat) (hm : M.map some = is.map (fun i => L[i]?)) (hn : is.Nodup := by decide) : Hp W0 w M := by
 have at_ : ∀ m : Nat, m < M.length → ∃ i, is[m]? = some i ∧ L[i]? = M[m]? := fun m hlt => by
  have hl : m < is.length := by have := congrArg List.length hm; simp at this; omega
  refine ⟨is[m], List.getElem?_eq_getElem hl, ?_⟩
  have := congrArg (fun l => l[m]?) hm
  simp only [List.getElem?_map, List.getElem?_eq_getElem hlt, List.getElem?_eq_getElem hl, Option.map_some] at this
  rw [List.getElem?_eq_getElem hlt]
  exact (Option.some.inj this).symm
 have sub : ∀ x ∈ M, x ∈ L := fun x hx => by
  obtain ⟨m, hm'⟩ := List.mem_iff_getElem?.1 hx
  obtain ⟨i, _, hi⟩ := at_ m (List.getElem?_eq_some_iff.1 hm').1
  exact List.mem_of_getElem? (hi.trans hm')
 refine ⟨h.bel, fun x hx => h.ge x (sub x hx), ?_, fun x hx => h.ok x (sub x hx)⟩
 rw [List.nodup_iff_pairwise_ne, List.pairwise_iff_getElem]
 intro i j hi hj hij
 simp only [List.length_map] at hi hj
 simp only [List.getElem_map]
 obtain ⟨a, ha, hai⟩ := at_ i hi
 obtain ⟨c, hc, hcj⟩ := at_ j hj
 rw [List.getElem?_eq_getElem hi] at hai
 rw [List.getElem?_eq_getElem hj] at hcj
 refine h.ne a c hai hcj fun q => ?_
 subst q
 obtain ⟨h1, h1'⟩ := List.getElem?_eq_some_iff.1 ha
 obtain ⟨h2, h2'⟩ := List.getElem?_eq_some_iff.1 hc
 have := (List.getElem_inj hn).1 (h1'.trans h2'.symm)
 omega
theorem Hp.rowF (h : Hp W0 w L) (g : Bel w w') (r : RowF w' w.heap.size v X) (h0 : 0 < X.length) : ∃ b c, v = .slice (some ⟨b, 0, none⟩) X.length c ∧ X.length ≤ c ∧ c ≤ 9223372036854775807 ∧ Hp W0 w' (.row b X :: L) := by
 obtain ⟨b, c, e, h1, h2, f, l⟩ := r.at_ h0
 exact ⟨b, c, e, h1, h2, h.new (e := .row b X) g f l⟩
theorem Hp.two {b1 b2 : Nat} (g : Bel w w') (F1 : Fk w' b1 X) (F2 : Fk w' b2 Y) (le : w.heap.size ≤ b1) (lt : b1 < b2) : Hp w w' [.whole b1 X, .whole b2 Y] :=
 ⟨g, fun e he => by simp at he; rcases he with rfl | rfl <;> (dsimp only [Ent.b]; omega), by simp [Ent.b]; omega, fun e he => by simp at he; rcases he with rfl | rfl <;> assumption⟩
theorem Hp.base {W1 : World} (h : Hp W1 w L) (g : Bel W0 W1) : Hp W0 w L := ⟨g.trans h.bel, fun e he => Nat.le_trans g.size (h.ge e he), h.nd, h.ok⟩
end
end Yh
namespace P3
open Ieee Go Go.RowKit Go.Proofs Go.Proofs.YtalbgklfhabnkaaGreatDoor Ow Pl Gp F1 I0 W0 S4 M0 N2
attribute [local go_sem ↓] Go.wp_at_zero Go.wp_at_succ
def insN (X : List Nat) : List Value := X.map fun (n : Nat) => Value.int .i64 (n : Int)
theorem insN_at {X : List Nat} {j : Nat} (h : j < X.length) : (insN X)[j]? = some (.int .i64 ((X.getD j 0 : Nat) : Int)) := by
 simp [insN, List.getElem?_eq_getElem h]
def bitsOk (p : Nat) : Bool := (fun l : List Nat => (List.range (2 ^ p)).all fun i => i == 0 || decide (bits BinOp.or IntKind.i64 ((l.getD (i / 2) 0 : Nat) / 2 : Int) (wrap64 (bits BinOp.and IntKind.i64 (i : Int) 1 * 2 ^ (p - 1))) = ((l.getD i 0 : Nat) : Int))) (bitsG p)
theorem bits_ok : ∀ p : Fin 8, bitsOk p.val = true ∧ (bitsG p.val).length = 2 ^ p.val ∧ (bitsG p.val).getD 0 0 = 0 := by decide +kernel
theorem bits_map {p : Nat} (hp : p ≤ 7) : bitsG p = (List.range (2 ^ p)).map (fun j => (bitsG p).getD j 0) := by
 have h := (bits_ok ⟨p, by omega⟩).2.1
 dsimp only at h
 refine List.ext_getElem (by simpa using h) fun i h1 h2 => ?_
 simp [List.getElem?_eq_getElem h1]
theorem bits_val {p i : Nat} (hp : p ≤ 7) (hi : i < 2 ^ p) (h0 : 0 < i) : bits BinOp.or IntKind.i64 (((bitsG p).getD (i / 2) 0 : Nat) / 2 : Int) (wrap64 (bits BinOp.and IntKind.i64 (i : Int) 1 * 2 ^ (p - 1))) = (((bitsG p).getD i 0 : Nat) : Int) := by
 have h0' := (bits_ok ⟨p, by omega⟩).1
 unfold bitsOk at h0'
 dsimp only at h0'
 have h := List.all_eq_true.1 h0' i (List.mem_range.2 hi)
 simp only [Bool.or_eq_true, beq_iff_eq, decide_eq_true_eq] at h
 rcases h with h | h
 ·omega
 ·exact h
theorem insN_set (X : List Nat) (i v : Nat) : (insN X).set i (.int .i64 (v : Int)) = insN (X.set i v) := by
 unfold insN; rw [List.map_set]
theorem upRow_at (f : Nat → Nat) {m i j : Nat} (h : j < m) : (upRow f m i).getD j 0 = if j < i then f j else 0 := by
 simp [upRow, List.getElem?_eq_getElem, h]
theorem dBits {p : Nat} {pi : Int} (w : World) (hp : pi = (p : Int)) (hp9 : p ≤ 7) :
  Calls Tryz.prog 110 #[.int .i64 pi] w
   fun e w' => ∃ b, e = .returned (.slice (some ⟨b, 0, none⟩) (2 ^ p) (2 ^ p)) ∧ Blk w' b 3 (insN (bitsG p)) ∧ w.heap.size ≤ b ∧ Bel w w' := by
 subst hp
 have h2 : 2 ^ p ≤ 512 := Nat.le_trans (Nat.pow_le_pow_right (by decide) hp9) (by decide)
 go_enter Tryz.func110, Tryz.ntmps110
 have hw : wrap64 ((2 : Int) ^ p) = ((2 ^ p : Nat) : Int) := by
  have : ((2 : Int) ^ p) = ((2 ^ p : Nat) : Int) := by push_cast; rfl
  rw [this]
  generalize 2 ^ p = N at *
  unfold wrap64 at *; omega
 go_upto_region 3 with fail
 go_wp2_with (at_make; refine wpList_mk _ rfl _ _ 35 rfl 3 (.int .i64 0) 8 Tryz.underlying35 info3 rfl (2 ^ p) (congrArg (Value.int .i64) hw) (congrArg (Value.int .i64) hw) (by omega) (by omega) ?_; intro w1 hk1 hl1 hs1)
 have hN : ((2 : Int) ^ p) = ((2 ^ p : Nat) : Int) := by push_cast; rfl
 rw [hN]
 obtain ⟨N, hNe⟩ : ∃ N, N = 2 ^ p := ⟨_, rfl⟩
 rw [← hNe] at hk1 h2 ⊢
 have HNE := Ho.mk hNe
 have hN1 : 0 < N := by rw [hNe]; exact Nat.two_pow_pos p
 clear hN hw hNe
 obtain ⟨bo, hbo⟩ : ∃ bo, bo = w.heap.size := ⟨_, rfl⟩
 rw [← hbo] at hk1 hs1 ⊢
 have HBO := Ho.mk hbo
 have HK1 := Ho.mk hk1
 have HL1 := Ho.mk hl1
 clear hk1 hl1 hs1 hbo
 go_loopw [16] (fun v wr => ∃ (i : Nat), i ≤ N ∧ v = .int .i64 i ∧ Ho (Blk wr bo 3 (insN (upRow (fun j => (bitsG p).getD j 0) N i))) ∧ Ho (Bel w wr)) (fun v _ => N - (intOf v).toNat)
 case atStart => exact ⟨0, Nat.zero_le _, rfl, ⟨by rw [upRow_zero]; simpa [insN] using HK1.out⟩, HL1⟩
 case round =>
  obtain ⟨i, hi, rfl, FK, HW⟩ := hrel
  rcases Nat.lt_or_ge i N with hlt | hge
  ·rcases Nat.eq_zero_or_pos i with rfl | hpos
   ·go_wp2
    go_roundw
    case rel =>
     have f0 := (bits_ok ⟨p, by omega⟩).2.2
     dsimp only at f0
     have hz := upRow_set (fun j => (bitsG p).getD j 0) N 0 hlt
     simp only [f0, upRow_zero] at hz
     rw [show (List.replicate N 0).set 0 0 = List.replicate N 0 from by
      apply List.ext_getElem (by simp)
      intro i h1 h2
      rw [List.getElem_set]; split <;> simp] at hz
     refine ⟨1, by omega, by simp, ⟨?_⟩, HW⟩
     rw [← hz, ← upRow_zero (fun j => (bitsG p).getD j 0)]; exact FK.out
    case measure => simp [intOf]; omega
   ·have hl2 : i / 2 < (upRow (fun j => (bitsG p).getD j 0) N i).length := by rw [upRow_len]; omega
    have hl3 : i < (upRow (fun j => (bitsG p).getD j 0) N i).length := by rw [upRow_len]; omega
    have y0 := FK.out.cell (insN_at hl2)
    rw [upRow_at _ (by omega), if_pos (by omega)] at y0
    obtain ⟨x, hx⟩ : ∃ x, x = (bitsG p).getD (i / 2) 0 := ⟨_, rfl⟩
    rw [← hx] at y0
    have HX := Ho.mk hx
    clear hx
    have y1 := FK.out.cell (insN_at hl3)
    have z1 := FK.out.free i
    have hp1 : 0 < p := by
     rcases Nat.eq_zero_or_pos p with rfl | h
     ·have := HNE.out; simp at this; omega
     ·exact h
    go_upto_region 8 with fail
    have BV := Ho.mk (bits_val hp9 (by rw [← HNE.out]; exact hlt) hpos)
    rw [← HX.out] at BV
    go_region
    go_wp2
    go_roundw
    case rel =>
     refine ⟨i + 1, by omega, by simp, ⟨?_⟩, ⟨?_⟩⟩
     ·rw [BV.out]
      have hk := FK.out.set i (.int .i64 (((bitsG p).getD i 0 : Nat) : Int))
      rw [insN_set, upRow_set (fun j => (bitsG p).getD j 0) N i hlt] at hk
      exact hk.bel (Bel.refl _).drew
     ·exact ⟨((HW.out.drew.out).setCell (by have := HBO.out; dsimp only; omega) _)⟩
    case measure => simp [intOf]; omega
  ·obtain rfl : i = N := by omega
   rw [upRow_all] at FK
   go_wp2
   go_ret
   exact ⟨bo, by rw [HNE.out]; rfl, by rw [bits_map hp9, ← HNE.out]; exact FK.out, by have := HBO.out; omega, HW.out⟩
end P3
namespace P4
open Ieee Go Go.RowKit Go.Proofs Go.Proofs.YtalbgklfhabnkaaGreatDoor Ow Pl Dp Dt Gp F1 I0 W0 S4 P0 M0 M1 M3 P3 W4
attribute [local go_sem ↓] Go.wp_at_zero Go.wp_at_succ
def logI (n : Nat) : Int := if n ≠ 0 ∧ 2 ^ Nat.log2 n = n ∧ n ≤ 1024 then (Nat.log2 n : Int) else -1
def logOk (n : Nat) : Bool := n == 0 || ((bits .and .i64 (n : Int) ((n : Int) - 1) == 0) == decide (2 ^ Nat.log2 n = n) && (decide (2 ^ Nat.log2 n ≠ n) || tz n == Nat.log2 n))
theorem log_ok : ∀ n : Fin 1100, logOk n.val = true := by decide +kernel
theorem log_fact {n : Nat} (h : n < 1100) (h0 : n ≠ 0) : ((bits .and .i64 (n : Int) ((n : Int) - 1) = 0) ↔ 2 ^ Nat.log2 n = n) ∧ (2 ^ Nat.log2 n = n → tz n = Nat.log2 n) := by
 have := log_ok ⟨n, h⟩
 unfold logOk at this
 simp only [Bool.or_eq_true, Bool.and_eq_true, beq_iff_eq, decide_eq_true_eq] at this
 rcases this with q | ⟨q1, q2⟩
 ·exact (h0 q).elim
 ·constructor
  ·constructor
   ·intro e; rw [e] at q1; simpa using q1
   ·intro e; rw [e] at q1; simpa using q1
  ·intro e; exact q2.resolve_left (fun c => c e)
theorem dLog {n : Nat} {fn : Nat} (hfn : fn = 109) (w : World) (h : n < 1100) (T : Tab w) : Calls Tryz.prog fn #[.int .i64 (n : Int)] w fun e w' => e = .returned (.int .i64 (logI n)) ∧ w = w' := by
 have TT := Ho.mk T
 clear T
 subst hfn
 obtain ⟨k, hk⟩ : ∃ k : Int, k = (n : Int) := ⟨_, rfl⟩
 by_cases h0 : n = 0
 ·subst h0
  have e : logI 0 = -1 := by decide
  rw [e]
  go_enter Tryz.func109, Tryz.ntmps109
  go_wp2
  go_ret
  exact ⟨rfl, rfl⟩
 ·obtain ⟨f1, f2⟩ := log_fact h h0
  have F2 := Ho.mk f2
  have hk0 : 0 < k := by omega
  have hk1 : k < 1100 := by omega
  by_cases hp : 2 ^ Nat.log2 n = n
  ·have hb : bits .and .i64 k (k - 1) = 0 := by rw [hk]; exact f1.2 hp
   have HE := Ho.mk (show logI n = if n ≤ 1024 then (Nat.log2 n : Int) else -1 by unfold logI; by_cases c : n ≤ 1024 <;> simp [h0, hp, c])
   have HT := Ho.mk (f2 hp)
   rw [HE.out, ← hk]
   have HK := Ho.mk hk
   clear f1 f2 hp h0 hk
   by_cases c : 1024 < k
   ·rw [if_neg (by have := HK.out; omega)]
    go_enter Tryz.func109, Tryz.ntmps109
    go_wp2
    go_ret
    exact ⟨rfl, rfl⟩
   ·rw [if_pos (by have := HK.out; omega)]
    go_enter Tryz.func109, Tryz.ntmps109
    go_wp2_with (go_at_call 39; (with_reducible refine (E1.tz_callsI _ _ (by omega) (by omega) TT.out).mono ?_); rintro e w' ⟨rfl, rfl⟩)
    go_ret
    refine ⟨?_, rfl⟩
    rw [show k.toNat = n by have := HK.out; omega, HT.out]; rfl
  ·have hb : ¬ bits .and .i64 k (k - 1) = 0 := by rw [hk]; exact fun e => hp (f1.1 e)
   have HE : logI n = -1 := by unfold logI; rw [if_neg (fun q => hp q.2.1)]
   rw [HE, ← hk]
   clear f1 f2 hp h0 hk HE F2
   go_enter Tryz.func109, Tryz.ntmps109
   go_wp2
   go_ret
   exact ⟨rfl, rfl⟩
end P4
namespace P5
open Ieee Go Go.RowKit Go.Proofs Go.Proofs.YtalbgklfhabnkaaGreatDoor Ow Pl Dp Dt Gp F1 I0 W0 S4 P0 M0 M1 M3 P3 W4
attribute [local go_sem ↓] Go.wp_at_zero Go.wp_at_succ
def swapK (od X : List Nat) (k : Nat) : List Nat := loopN (fun k l => swapAt opsN l k (od.getD k 0)) k X
theorem swapK_len (od X : List Nat) (k : Nat) : (swapK od X k).length = X.length := by
 refine loopN_inv (I := fun _ (s : List Nat) => s.length = X.length) k rfl ?_
 intro k s _ h
 show (swapAt opsN s k _).length = _
 unfold swapAt; split <;> simp [h]
theorem swapK_succ (od X : List Nat) (k : Nat) : swapK od X (k + 1) = swapAt opsN (swapK od X k) k (od.getD k 0) := rfl
theorem dSwap {b bo c co N : Nat} {X od : List Nat} (W0 : World) (KX : Fz W0 b X) (KO : Blk W0 bo 3 (insN od)) (hX : X.length = N) (hO : od.length = N) (hlt : ∀ k, k < N → od.getD k 0 < N) (hN : N ≤ 100000) (hne : bo ≠ b) :
  Calls Tryz.prog 111 #[.slice (some ⟨b, 0, none⟩) N c, .slice (some ⟨bo, 0, none⟩) N co] W0
   fun e w' => e = .returned (.tuple #[]) ∧ Fz w' b (swapG opsN od X) ∧ Gr b W0 w' := by
 have HL := Ho.mk hlt
 have K1 := Ho.mk KX
 have K2 := Ho.mk KO
 have HX := Ho.mk hX
 have HO := Ho.mk hO
 clear hlt KX KO hX hO
 go_enter Tryz.func111, Tryz.ntmps111
 go_wp2_with fail
 go_loopw [8] (fun v wr => ∃ (i : Nat), i ≤ N ∧ v = .int .i64 i ∧ Ho (Fz wr b (swapK od X i)) ∧ Ho (Gr b W0 wr)) (fun v _ => N - (intOf v).toNat)
 case atStart => exact ⟨0, Nat.zero_le _, rfl, K1, ⟨Gr.refl _ _⟩⟩
 case round =>
  obtain ⟨i, hi, rfl, FK, HW⟩ := hrel
  rcases Nat.lt_or_ge i N with hlt | hge
  ·have y0 := (HW.out.blk K2.out hne).cell (insN_at (show i < od.length by rw [HO.out]; exact hlt))
   obtain ⟨x, hx⟩ : ∃ x, x = od.getD i 0 := ⟨_, rfl⟩
   have hxN := HL.out i hlt
   rw [← hx] at y0 hxN
   have HXX := Ho.mk hx
   clear hx
   have hl1 : i < (swapK od X i).length := by rw [swapK_len, HX.out]; exact hlt
   have hl2 : x < (swapK od X i).length := by rw [swapK_len, HX.out]; exact hxN
   obtain ⟨r1, y1, r1l, r1c⟩ := FK.out.at_ hl1
   obtain ⟨r2, y2, r2l, r2c⟩ := FK.out.at_ hl2
   have z1 := FK.out.free i
   have z2 := FK.out.free x
   have HR := Ho.mk (And.intro (And.intro r1l r1c) (And.intro r2l r2c))
   clear r1l r1c r2l r2c hl1 hl2
   by_cases hc : (i : Int) < (x : Int)
   ·--@@
    go_upto_region 4 with fail
    go_region
    go_wp2
    go_roundw
    case rel =>
     refine ⟨i + 1, by omega, by simp, ⟨?_⟩, ⟨?_⟩⟩
     ·rw [swapK_succ, ← HXX.out, swapAt, if_pos (by omega)]
      have hk := (FK.out.set i HR.out.2.1 (x := nthN (swapK od X i) x) HR.out.2.2).set x HR.out.1.1 (x := nthN (swapK od X i) i) HR.out.1.2
      exact hk.bel (Bel.refl _).drew
     ·exact ((HW.out.drew).set i _).set x _
    case measure => simp [intOf]; omega
   ·go_wp2
    go_roundw
    case rel =>
     refine ⟨i + 1, by omega, by simp, ⟨?_⟩, HW⟩
     rw [swapK_succ, ← HXX.out, swapAt, if_neg (by omega)]; exact FK.out
    case measure => simp [intOf]; omega
  ·obtain rfl : i = N := by omega
   go_wp2
   go_end0
   exact ⟨rfl, by unfold swapG; rw [HO.out]; exact FK.out, HW.out⟩
end P5
namespace P6
open Ieee Go Go.RowKit Go.Proofs Go.Proofs.YtalbgklfhabnkaaGreatDoor Ow Pl Dp Dt Gp F1 I0 W0 S4 S6 P0 M0 M1 M3 P3 P4 W4
attribute [local go_sem ↓] Go.wp_at_zero Go.wp_at_succ
def TellsV (W0 : World) (v0 v1 : Value) (e : Ending) (w' : World) : Prop := e = .returned (.agg #[v0, v1]) ∧ Bel W0 w'
theorem dPart {b b' o n m f t c c' : Nat} (w : World) (hft : f < t) (htc : t ≤ c) (htc' : t ≤ c') (hn : n ≤ c) (hm : m ≤ c') (hc : c ≤ 9223372036854775807) (hc' : c' ≤ 9223372036854775807) :
  Calls Tryz.prog 114 #[.agg #[.slice (some ⟨b, o, none⟩) n c, .slice (some ⟨b', o, none⟩) m c'], .int .i64 (f : Int), .int .i64 (t : Int)] w
   (TellsV w (.slice (some ⟨b, o + f, none⟩) (t - f) (c - f)) (.slice (some ⟨b', o + f, none⟩) (t - f) (c' - f))) := by
 go_enter Tryz.func114, Tryz.ntmps114
 have KV := Ho.mk ((Blk.new w [.slice (some ⟨b, o, none⟩) n c, .slice (some ⟨b', o, none⟩) m c'] 46).old (.cells #[.slice none 0 0, .slice none 0 0] 46))
 have KR := Ho.mk (Blk.new (w.alloc (.cells #[.slice (some ⟨b, o, none⟩) n c, .slice (some ⟨b', o, none⟩) m c'] 46)) [.slice none 0 0, .slice none 0 0] 46)
 have g0 := Ho.mk (((Bel.refl w).alloc (.cells #[.slice (some ⟨b, o, none⟩) n c, .slice (some ⟨b', o, none⟩) m c'] 46)).alloc (.cells #[.slice none 0 0, .slice none 0 0] 46))
 rw [World.size_alloc] at KR
 go_wp2_with fail
 generalize (w.alloc (.cells #[.slice (some ⟨b, o, none⟩) n c, .slice (some ⟨b', o, none⟩) m c'] 46)).alloc (.cells #[.slice none 0 0, .slice none 0 0] 46) = W at *
 obtain ⟨y0, y1⟩ := KV.out.c2
 obtain ⟨x0, x1⟩ := KR.out.c2
 have z0 := KR.out.free 0
 have z1 := KR.out.free 1
 --@@
 go_region
 go_wp2
 exact bodyPost_ret (resV (fn := Tryz.f114) rfl rfl ((KR.out.drew.set 0 _).set 1 _)) rfl ⟨rfl, ⟨((g0.out.out.drew).setCell (p := ⟨w.heap.size + 1, 0, none⟩) (by dsimp only; omega) _).setCell (p := ⟨w.heap.size + 1, 1, none⟩) (by dsimp only; omega) _⟩⟩
theorem dRightV {n m c c' : Nat} {A B : Option Addr} (w : World) (T : Tab w) (hn : n < 1100) (hm : m < 1100) :
  Calls Tryz.prog 108 #[.agg #[.slice A n c, .slice B m c']] w (fun e w' => e = .returned (.bool (decide (n = m ∧ 0 ≤ logI n))) ∧ Bel w w') := by
 have lg := (fun w' (g : Bel w w') => dLog (fn := 109) rfl w' hn (T.bel g))
 generalize logI n = z at *
 have LG := Ho.mk lg
 clear lg
 have KV := Ho.mk (Blk.new w [.slice A n c, .slice B m c'] 46)
 have g0 := Ho.mk ((Bel.refl w).alloc (.cells #[.slice A n c, .slice B m c'] 46))
 by_cases he : n = m
 ·subst he
  go_enter Tryz.func108, Tryz.ntmps108
  go_wp2_with (go_at_call 109; (with_reducible refine (LG.out _ g0.out).mono ?_); rintro e w' ⟨rfl, rfl⟩)
  go_ret
  exact ⟨by simp, g0.out⟩
 ·have hne : ¬ (n : Int) = (m : Int) := by omega
  go_enter Tryz.func108, Tryz.ntmps108
  go_wp2_with fail
  go_ret
  exact ⟨by simp [hne, he], g0.out⟩
theorem dAt {k p q m bw bp bq bc bs : Nat} {CX SX : List Nat} (w : World) (KW : Blk w bw 46 [.slice (some ⟨bc, 0, none⟩) m m, .slice (some ⟨bs, 0, none⟩) m m]) (KP : Blk w bp 3 [.int .i64 (p : Int)]) (KQ : Blk w bq 3 [.int .i64 (q : Int)])
  (FC : Fk w bc CX) (FS : Fk w bs SX) (hp : p ≤ 9) (hq : q ≤ p) (hk : k < 512) (hi : k * 2 ^ (p - q) < m) (hC : CX.length = m) (hS : SX.length = m) (hm : m < 1000000) :
  Calls Tryz.prog 112 #[.int .i64 (k : Int), .pointer (some ⟨bw, 0, none⟩), .pointer (some ⟨bp, 0, none⟩), .pointer (some ⟨bq, 0, none⟩)] w (Tells2 w (nthN CX (k * 2 ^ (p - q)), nthN SX (k * 2 ^ (p - q)))) := by
 obtain ⟨y0, y1⟩ := KW.c2
 have y2 := KP.cell (i := 0) rfl
 have y3 := KQ.cell (i := 0) rfl
 obtain ⟨r, y4, r1, r2⟩ := FC.at_ (i := k * 2 ^ (p - q)) (by omega)
 obtain ⟨s, y5, s1, s2⟩ := FS.at_ (i := k * 2 ^ (p - q)) (by omega)
 have HR := Ho.mk (And.intro (And.intro r1 r2) (And.intro s1 s2))
 have hpq : IntKind.i64.wrap ((p : Int) - (q : Int)) = ((p - q : Nat) : Int) := by rw [IntKind.wrap_i64]; omega
 have hsh : IntKind.i64.wrap ((k : Int) * 2 ^ (p - q)) = ((k * 2 ^ (p - q) : Nat) : Int) := by
  have e : ((k : Int) * 2 ^ (p - q)) = ((k * 2 ^ (p - q) : Nat) : Int) := by push_cast; rfl
  rw [e, IntKind.wrap_i64]
  generalize k * 2 ^ (p - q) = z at *
  omega
 generalize k * 2 ^ (p - q) = z at *
 have hd9 : p - q ≤ 9 := by omega
 generalize p - q = d at *
 clear KW KP KQ FC FS hC hS r1 r2 s1 s2
 go_enter Tryz.func112, Tryz.ntmps112
 go_upto_region 1 with fail
 go_region
 go_wp2
 go_ret2
 exact ⟨r, s, rfl, ⟨HR.out.1.1, HR.out.2.1⟩, ⟨HR.out.1.2, HR.out.2.2⟩, (Bel.refl _).drew⟩
end P6
namespace I8
open Go Go.RowKit Go.Proofs.YtalbgklfhabnkaaGreatDoor I0
section
variable {P : Program} {ops : Array Oper} {Q : Exit → Act → World → Prop} {md : Region.Mode} {S : World → Prop}
theorem rc3 {i j k : Nat} {o o' o'' : Oper} {rest rest' rest'' : List Oper} {fuel : Nat} {listed : Array Bool} {a : Act} {w : World}
  (h : ∀ K' : Act → World → Prop, Shut (∀ a w, S w → (S w → wpAnyH P md ops Q S fuel (listed.setIfInBounds i true) a w) → K' a w) → Oper.wp P o a w K' Q)
  (h' : ∀ K' : Act → World → Prop, Shut (∀ a w, S w → (S w → wpAnyH P md ops Q S fuel (listed.setIfInBounds j true) a w) → K' a w) → Oper.wp P o' a w K' Q)
  (h'' : ∀ K' : Act → World → Prop, Shut (∀ a w, S w → (S w → wpAnyH P md ops Q S fuel (listed.setIfInBounds k true) a w) → K' a w) → Oper.wp P o'' a w K' Q)
  (hr : Region.ready md ops listed = [i, j, k] := by kernel_rfl) (hi : ops.toList.drop i = o :: rest := by rfl) (hj : ops.toList.drop j = o' :: rest' := by rfl) (hk : ops.toList.drop k = o'' :: rest'' := by rfl)
  (hw : Region.wanted o (yielded ops a.tmps) = true := by kernel_rfl) (hw' : Region.wanted o' (yielded ops a.tmps) = true := by kernel_rfl) (hw'' : Region.wanted o'' (yielded ops a.tmps) = true := by kernel_rfl) : wpAnyH P md ops Q S (fuel + 1) listed a w :=
 wpAnyH_ready hr (by simp) (AllReadyH.cons (ops_at hi) (fun K' hK => by rw [if_pos hw]; exact h K' hK) (AllReadyH.cons (ops_at hj) (fun K' hK => by rw [if_pos hw']; exact h' K' hK) (AllReadyH.cons (ops_at hk) (fun K' hK => by rw [if_pos hw'']; exact h'' K' hK) AllReadyH.nil)))
end
end I8
namespace P7
open Ieee Go Go.RowKit Go.Proofs Go.Proofs.YtalbgklfhabnkaaGreatDoor Ow Pl Dp Dt Gp F1 I0 W0 S4 P0 P1 P2 M0 M1 M3 P3 P4 P6 W4
attribute [local go_sem ↓] Go.wp_at_zero Go.wp_at_succ
def mergeS (f half : Nat) (tw : Nat → Nat × Nat) (st : List Nat × List Nat) (k : Nat) : List Nat × List Nat := loopN (mstep opsN f half tw) k st
theorem mergeS_len (f half : Nat) (tw : Nat → Nat × Nat) (st : List Nat × List Nat) (k : Nat) : (mergeS f half tw st k).1.length = st.1.length ∧ (mergeS f half tw st k).2.length = st.2.length := by
 refine loopN_inv (I := fun _ (s : List Nat × List Nat) => s.1.length = st.1.length ∧ s.2.length = st.2.length) k ⟨rfl, rfl⟩ ?_
 intro k s _ h
 simp only [mstep, List.length_set]; exact h
theorem mergeS_succ (f half : Nat) (tw : Nat → Nat × Nat) (st : List Nat × List Nat) (k : Nat) : mergeS f half tw st (k + 1) = mstep opsN f half tw k (mergeS f half tw st k) := rfl
theorem dMerge {half f c c' b b' bw bp bq N : Nat} {X Y : List Nat} {tw : Nat → Nat × Nat} (W0 : World) (KX : Fz W0 b X) (KY : Fz W0 b' Y) (hb : b ≠ b') (hX : X.length = N) (hY : Y.length = N) (hf : f + 2 * half ≤ N) (h0 : 0 < half) (hN : N ≤ 100000) (hc : 2 * half ≤ c) (hc' : 2 * half ≤ c') (hC : c ≤ 9223372036854775807) (hC' : c' ≤ 9223372036854775807)
  (AT : ∀ k, 0 < k → k < half → ∀ w, Gr2 b b' W0 w → Calls Tryz.prog 112 #[.int .i64 (k : Int), .pointer (some ⟨bw, 0, none⟩), .pointer (some ⟨bp, 0, none⟩), .pointer (some ⟨bq, 0, none⟩)] w (Tells2 w (tw k))) :
  Calls Tryz.prog 113 #[.agg #[.slice (some ⟨b, f, none⟩) (2 * half) c, .slice (some ⟨b', f, none⟩) (2 * half) c'], .func (.func 112) #[] #[.pointer (some ⟨bw, 0, none⟩), .pointer (some ⟨bp, 0, none⟩), .pointer (some ⟨bq, 0, none⟩)]] W0
   fun e w' => e = .returned (.tuple #[]) ∧ Fz w' b (mergeG opsN f half tw (X, Y)).1 ∧ Fz w' b' (mergeG opsN f half tw (X, Y)).2 ∧ Gr2 b b' W0 w' := by
 have PT1 : Ho (∀ w, Calls Tryz.prog 114 #[.agg #[.slice (some ⟨b, f, none⟩) (2 * half) c, .slice (some ⟨b', f, none⟩) (2 * half) c'], .int .i64 0, .int .i64 (half : Int)] w (TellsV w (.slice (some ⟨b, f, none⟩) half c) (.slice (some ⟨b', f, none⟩) half c'))) :=
  ⟨fun w => by have h := dPart (b := b) (b' := b') (o := f) (n := 2 * half) (m := 2 * half) (f := 0) (t := half) (c := c) (c' := c') w h0 (by omega) (by omega) hc hc' hC hC'; simpa using h⟩
 have PT2 : Ho (∀ w, Calls Tryz.prog 114 #[.agg #[.slice (some ⟨b, f, none⟩) (2 * half) c, .slice (some ⟨b', f, none⟩) (2 * half) c'], .int .i64 (half : Int), .int .i64 (2 * (half : Int))] w (TellsV w (.slice (some ⟨b, f + half, none⟩) half (c - half)) (.slice (some ⟨b', f + half, none⟩) half (c' - half)))) :=
  ⟨fun w => by have h := dPart (b := b) (b' := b') (o := f) (n := 2 * half) (m := 2 * half) (f := half) (t := 2 * half) (c := c) (c' := c') w (by omega) hc hc' hc hc' hC hC'; rw [show 2 * half - half = half by omega, show ((2 * half : Nat) : Int) = 2 * (half : Int) by omega] at h; exact h⟩
 have K1 := Ho.mk KX
 have K2 := Ho.mk KY
 have A0 := Ho.mk AT
 have HX := Ho.mk hX
 have HY := Ho.mk hY
 have KV := Ho.mk (Blk.new W0 [.slice (some ⟨b, f, none⟩) (2 * half) c, .slice (some ⟨b', f, none⟩) (2 * half) c'] 46)
 have g0 := Ho.mk ((Bel.refl W0).alloc (.cells #[.slice (some ⟨b, f, none⟩) (2 * half) c, .slice (some ⟨b', f, none⟩) (2 * half) c'] 46))
 have lb := KX.lt
 have lb' := KY.lt
 clear KX KY AT hX hY
 go_enter Tryz.func113, Tryz.ntmps113
 go_upto_region 2 with fail
 have hs : (W0.alloc (.cells #[.slice (some ⟨b, f, none⟩) (2 * half) c, .slice (some ⟨b', f, none⟩) (2 * half) c'] 46)).heap.size = W0.heap.size + 1 := World.size_alloc _ _
 generalize W0.alloc (.cells #[.slice (some ⟨b, f, none⟩) (2 * half) c, .slice (some ⟨b', f, none⟩) (2 * half) c'] 46) = W at *
 obtain ⟨y0, y1⟩ := KV.out.c2
 go_cut [5, 6] from 14 to 26 (fun s5 s6 wy => ∃ (bE bO : Nat), s5 = .pointer (some ⟨bE, 0, none⟩) ∧ s6 = .pointer (some ⟨bO, 0, none⟩) ∧ Ho (Blk wy bE 46 [.slice (some ⟨b, f, none⟩) half c, .slice (some ⟨b', f, none⟩) half c']) ∧ Ho (Blk wy bO 46 [.slice (some ⟨b, f + half, none⟩) half (c - half), .slice (some ⟨b', f + half, none⟩) half (c' - half)]) ∧ Ho (Bel W wy) ∧ Ho (bE ≠ bO) ∧ Ho (W0.heap.size ≤ bE) ∧ Ho (W0.heap.size ≤ bO))
 case first =>
  refine wp_region_held_drew (S := fun w' => Bel W w') (by kernel_rfl) (Bel.refl _).drew (fun hHeld => ?_)
  (try dsimp only at hHeld)
  generalize W.drew = wx at *
  have n0 := trivial
  repeat' (first
   |
    clear t2
    go_simp
    go_at_call 114
    (with_reducible refine (PT1.out wx).mono ?_); rintro e wx ⟨rfl, bwx⟩
    try go_wp2_with fail
    refine hK.out _ _ (Bel.trans hHeld bwx) (fun hHeld => ?_)
    clear hK K
    try have KE := Ho.mk (KE.out.bel bwx)
    try have KO := Ho.mk (KO.out.bel bwx)
    try have lt_bE := Nat.lt_of_lt_of_le lt_bE bwx.size
    try have lt_bO := Nat.lt_of_lt_of_le lt_bO bwx.size
    clear bwx
    try simp only [Act.put, Ow.zS, Ow.zC, Ow.zD]
   |
    clear t8
    go_simp
    go_at_call 114
    (with_reducible refine (PT2.out wx).mono ?_); rintro e wx ⟨rfl, bwx⟩
    try go_wp2_with fail
    refine hK.out _ _ (Bel.trans hHeld bwx) (fun hHeld => ?_)
    clear hK K
    try have KE := Ho.mk (KE.out.bel bwx)
    try have KO := Ho.mk (KO.out.bel bwx)
    try have lt_bE := Nat.lt_of_lt_of_le lt_bE bwx.size
    try have lt_bO := Nat.lt_of_lt_of_le lt_bO bwx.size
    clear bwx
    try simp only [Act.put, Ow.zS, Ow.zC, Ow.zD]
   |
    clear t9
    go_simp
    have le_bE := hHeld.size
    refine hK.out _ _ (Bel.alloc hHeld _) (fun hHeld => ?_)
    clear hK K
    have KE := Ho.mk (Blk.new wx [.slice none 0 0, .slice none 0 0] 46)
    have ga := (Bel.refl wx).alloc (.cells #[.slice none 0 0, .slice none 0 0] 46)
    try have KO := Ho.mk (KO.out.bel ga)
    try have lt_bO := Nat.lt_of_lt_of_le lt_bO ga.size
    clear ga
    have lt_bE : wx.heap.size < (World.alloc wx (.cells #[.slice none 0 0, .slice none 0 0] 46)).heap.size := by rw [World.size_alloc]; exact Nat.lt_succ_self _
    try have ne_bO_bE : bO ≠ wx.heap.size := by omega
    generalize wx.heap.size = bE at *
    generalize World.alloc wx (.cells #[.slice none 0 0, .slice none 0 0] 46) = wx at *
    try simp only [Act.put, Ow.zS, Ow.zC, Ow.zD]
   |
    clear t10
    go_simp
    have le_bO := hHeld.size
    refine hK.out _ _ (Bel.alloc hHeld _) (fun hHeld => ?_)
    clear hK K
    have KO := Ho.mk (Blk.new wx [.slice none 0 0, .slice none 0 0] 46)
    have ga := (Bel.refl wx).alloc (.cells #[.slice none 0 0, .slice none 0 0] 46)
    try have KE := Ho.mk (KE.out.bel ga)
    try have lt_bE := Nat.lt_of_lt_of_le lt_bE ga.size
    clear ga
    have lt_bO : wx.heap.size < (World.alloc wx (.cells #[.slice none 0 0, .slice none 0 0] 46)).heap.size := by rw [World.size_alloc]; exact Nat.lt_succ_self _
    try have ne_bE_bO : bE ≠ wx.heap.size := by omega
    generalize wx.heap.size = bO at *
    generalize World.alloc wx (.cells #[.slice none 0 0, .slice none 0 0] 46) = wx at *
    try simp only [Act.put, Ow.zS, Ow.zC, Ow.zD]
   |
    clear t11
    go_simp
    have KO := Ho.mk ((KO.out.far (p := ⟨bE, 0, none⟩) (by dsimp only; omega) (.slice (some ⟨b, f, none⟩) half c)).far (p := ⟨bE, 1, none⟩) (by dsimp only; omega) (.slice (some ⟨b', f, none⟩) half c'))
    have KE := Ho.mk ((KE.out.set 0 (.slice (some ⟨b, f, none⟩) half c)).set 1 (.slice (some ⟨b', f, none⟩) half c'))
    simp only [List.set_cons_zero, List.set_cons_succ] at KE
    refine hK.out _ _ ⟨((hHeld.out.setCell (p := ⟨bE, 0, none⟩) (by dsimp only; omega) (.slice (some ⟨b, f, none⟩) half c)).setCell (p := ⟨bE, 1, none⟩) (by dsimp only; omega) (.slice (some ⟨b', f, none⟩) half c'))⟩ (fun hHeld => ?_)
    clear hK K y0 x0 y1 x1
    have lt_bE : bE < (World.setCell (World.setCell wx ⟨bE, 0, none⟩ (.slice (some ⟨b, f, none⟩) half c)) ⟨bE, 1, none⟩ (.slice (some ⟨b', f, none⟩) half c')).heap.size := by simpa [World.setCell] using lt_bE
    have lt_bO : bO < (World.setCell (World.setCell wx ⟨bE, 0, none⟩ (.slice (some ⟨b, f, none⟩) half c)) ⟨bE, 1, none⟩ (.slice (some ⟨b', f, none⟩) half c')).heap.size := by simpa [World.setCell] using lt_bO
    generalize World.setCell (World.setCell wx ⟨bE, 0, none⟩ (.slice (some ⟨b, f, none⟩) half c)) ⟨bE, 1, none⟩ (.slice (some ⟨b', f, none⟩) half c') = wx at *
    try simp only [Act.put, Ow.zS, Ow.zC, Ow.zD]
   |
    clear t12
    go_simp
    have KE := Ho.mk ((KE.out.far (p := ⟨bO, 0, none⟩) (by dsimp only; omega) (.slice (some ⟨b, f + half, none⟩) half (c - half))).far (p := ⟨bO, 1, none⟩) (by dsimp only; omega) (.slice (some ⟨b', f + half, none⟩) half (c' - half)))
    have KO := Ho.mk ((KO.out.set 0 (.slice (some ⟨b, f + half, none⟩) half (c - half))).set 1 (.slice (some ⟨b', f + half, none⟩) half (c' - half)))
    simp only [List.set_cons_zero, List.set_cons_succ] at KO
    refine hK.out _ _ ⟨((hHeld.out.setCell (p := ⟨bO, 0, none⟩) (by dsimp only; omega) (.slice (some ⟨b, f + half, none⟩) half (c - half))).setCell (p := ⟨bO, 1, none⟩) (by dsimp only; omega) (.slice (some ⟨b', f + half, none⟩) half (c' - half)))⟩ (fun hHeld => ?_)
    clear hK K y0 x0 y1 x1
    have lt_bE : bE < (World.setCell (World.setCell wx ⟨bO, 0, none⟩ (.slice (some ⟨b, f + half, none⟩) half (c - half))) ⟨bO, 1, none⟩ (.slice (some ⟨b', f + half, none⟩) half (c' - half))).heap.size := by simpa [World.setCell] using lt_bE
    have lt_bO : bO < (World.setCell (World.setCell wx ⟨bO, 0, none⟩ (.slice (some ⟨b, f + half, none⟩) half (c - half))) ⟨bO, 1, none⟩ (.slice (some ⟨b', f + half, none⟩) half (c' - half))).heap.size := by simpa [World.setCell] using lt_bO
    generalize World.setCell (World.setCell wx ⟨bO, 0, none⟩ (.slice (some ⟨b, f + half, none⟩) half (c - half))) ⟨bO, 1, none⟩ (.slice (some ⟨b', f + half, none⟩) half (c' - half)) = wx at *
    try simp only [Act.put, Ow.zS, Ow.zC, Ow.zD]
   |
    clear n13
    refine wpAnyH_done (by kernel_rfl) ?_ _
   |
    clear n12
    obtain ⟨y0, y1⟩ := KO.out.c2
    have x0 := KO.out.free 0
    have x1 := KO.out.free 1
    refine rc (i := 12) (fun K hK => have t12 := trivial; have n13 := trivial; ?_)
   |
    clear n11
    obtain ⟨y0, y1⟩ := KE.out.c2
    have x0 := KE.out.free 0
    have x1 := KE.out.free 1
    refine rc (i := 11) (fun K hK => have t11 := trivial; have n12 := trivial; ?_)
   |
    clear n8
    refine rc (i := 10) (fun K hK => have t10 := trivial; have n11 := trivial; ?_)
   |
    clear n9
    refine rc (i := 9) (fun K hK => have t9 := trivial; have n11 := trivial; ?_)
   |
    clear n10
    refine rc (i := 8) (fun K hK => have t8 := trivial; have n11 := trivial; ?_)
   |
    clear n4
    refine I6.rc2 (i := 9) (j := 10) (fun K hK => have t9 := trivial; have n8 := trivial; ?_) (fun K hK => have t10 := trivial; have n9 := trivial; ?_)
   |
    clear n5
    refine I6.rc2 (i := 8) (j := 10) (fun K hK => have t8 := trivial; have n8 := trivial; ?_) (fun K hK => have t10 := trivial; have n10 := trivial; ?_)
   |
    clear n6
    refine I6.rc2 (i := 8) (j := 9) (fun K hK => have t8 := trivial; have n9 := trivial; ?_) (fun K hK => have t9 := trivial; have n10 := trivial; ?_)
   |
    clear n7
    refine rc (i := 2) (fun K hK => have t2 := trivial; have n10 := trivial; ?_)
   |
    clear n1
    refine I8.rc3 (i := 8) (j := 9) (k := 10) (fun K hK => have t8 := trivial; have n4 := trivial; ?_) (fun K hK => have t9 := trivial; have n5 := trivial; ?_) (fun K hK => have t10 := trivial; have n6 := trivial; ?_)
   |
    clear n2
    refine I6.rc2 (i := 2) (j := 10) (fun K hK => have t2 := trivial; have n5 := trivial; ?_) (fun K hK => have t10 := trivial; have n7 := trivial; ?_)
   |
    clear n3
    refine I6.rc2 (i := 2) (j := 9) (fun K hK => have t2 := trivial; have n6 := trivial; ?_) (fun K hK => have t9 := trivial; have n7 := trivial; ?_)
   |
    clear n0
    refine rl (i := 0) (v := ?_) hHeld (fun w hSw => ?_) ?_
    rotate_left
    ·(have z0 := hSw.cell y0; have z1 := hSw.cell y1; go_simp; try (with_reducible rfl))
    refine rt (i := 1) hHeld ?_
    refine rl (i := 3) (v := ?_) hHeld (fun w hSw => ?_) ?_
    rotate_left
    ·(have z0 := hSw.cell y0; have z1 := hSw.cell y1; go_simp; try (with_reducible rfl))
    refine rt (i := 4) hHeld ?_
    refine rt (i := 5) hHeld ?_
    refine rl (i := 6) (v := ?_) hHeld (fun w hSw => ?_) ?_
    rotate_left
    ·(have z0 := hSw.cell y0; have z1 := hSw.cell y1; go_simp; try (with_reducible rfl))
    refine rt (i := 7) hHeld ?_
    try simp only [Act.put, Ow.zS, Ow.zC, Ow.zD]
    refine I8.rc3 (i := 2) (j := 9) (k := 10) (fun K hK => have t2 := trivial; have n1 := trivial; ?_) (fun K hK => have t9 := trivial; have n2 := trivial; ?_) (fun K hK => have t10 := trivial; have n3 := trivial; ?_))
  all_goals
   go_wp2_with fail
   go_meet
   exact ⟨bE, bO, rfl, rfl, KE, KO, ⟨hHeld⟩, ⟨by first | exact ne_bE_bO | exact Ne.symm ne_bO_bE⟩, ⟨by omega⟩, ⟨by omega⟩⟩
 case rest =>
  obtain ⟨bE, bO, rfl, rfl, KE, KO, HB, HNE, LE, LO⟩ := hcut
  obtain ⟨wo, rfl⟩ : ∃ wo : World, wo = wc := ⟨_, rfl⟩
  have n1 : bE ≠ b := by have := LE.out; omega
  have n2 : bE ≠ b' := by have := LE.out; omega
  have n3 : bO ≠ b := by have := LO.out; omega
  have n4 : bO ≠ b' := by have := LO.out; omega
  have G0 := Ho.mk (g0.out.trans HB.out)
  have NE := Ho.mk (And.intro (And.intro n1 n2) (And.intro n3 n4))
  clear y0 y1 KV HB g0 PT1 PT2 n1 n2 n3 n4 HNE LE LO lb lb' hs
  go_wp2_with fail
  go_loopw [28] (fun v wr => ∃ (i : Nat), i ≤ half ∧ v = .int .i64 i ∧ Ho (Fz wr b (mergeS f half tw (X, Y) i).1) ∧ Ho (Fz wr b' (mergeS f half tw (X, Y) i).2) ∧ Ho (Gr2 b b' wo wr)) (fun v _ => half - (intOf v).toNat)
  case atStart => exact ⟨0, Nat.zero_le _, rfl, ⟨K1.out.bel G0.out⟩, ⟨K2.out.bel G0.out⟩, ⟨Gr2.refl _ _ _⟩⟩
  case round =>
   obtain ⟨i, hi, rfl, FX, FY, HG⟩ := hrel
   rcases Nat.lt_or_ge i half with hlt | hge
   ·have HL := Ho.mk (mergeS_len f half tw (X, Y) i)
    obtain ⟨st, hst⟩ : ∃ st, st = mergeS f half tw (X, Y) i := ⟨_, rfl⟩
    have HST := Ho.mk hst
    rw [← hst] at FX FY HL
    clear hst
    have hL1 : Ho (st.1.length = N) := ⟨HL.out.1.trans HX.out⟩
    have hL2 : Ho (st.2.length = N) := ⟨HL.out.2.trans HY.out⟩
    have KE1 := Ho.mk (HG.out.blk KE.out NE.out.1.1 NE.out.1.2)
    have KO1 := Ho.mk (HG.out.blk KO.out NE.out.2.1 NE.out.2.2)
    obtain ⟨e0, e1⟩ := KE1.out.c2
    obtain ⟨o0, o1⟩ := KO1.out.c2
    obtain ⟨r1, y1, r1l, r1c⟩ := FX.out.at_ (i := f + half + i) (by rw [hL1.out]; omega)
    obtain ⟨r2, y2, r2l, r2c⟩ := FY.out.at_ (i := f + half + i) (by rw [hL2.out]; omega)
    obtain ⟨r3, y3, r3l, r3c⟩ := FX.out.at_ (i := f + i) (by rw [hL1.out]; omega)
    obtain ⟨r4, y4, r4l, r4c⟩ := FY.out.at_ (i := f + i) (by rw [hL2.out]; omega)
    have H12 := Ho.mk (And.intro (And.intro r1l r1c) (And.intro r2l r2c))
    have H34 := Ho.mk (And.intro (And.intro r3l r3c) (And.intro r4l r4c))
    clear r1l r1c r2l r2c r3l r3c r4l r4c
    go_upto_region 6 with fail
    go_region
    go_upto_if 42 with fail
    go_cut [8, 9, 10, 11] from 42 to 56 (fun s8 s9 s10 s11 wy => ∃ (r s : Nat), s8 = .float .f64 r ∧ s9 = .float .f64 s ∧ Ho (r < 2 * sgnW ∧ s < 2 * sgnW) ∧ Ho (cn r = (tw1 opsN tw i (nthN st.1 (f + half + i)) (nthN st.2 (f + half + i))).1 ∧ cn s = (tw1 opsN tw i (nthN st.1 (f + half + i)) (nthN st.2 (f + half + i))).2) ∧ Ho (Bel wr wy))
    case first =>
     by_cases hi0 : i = 0
     ·subst hi0
      go_wp2_with fail
      go_meet
      exact ⟨r1, r2, rfl, rfl, ⟨H12.out.1.1, H12.out.2.1⟩, ⟨by rw [tw1, if_pos rfl]; exact H12.out.1.2, by rw [tw1, if_pos rfl]; exact H12.out.2.2⟩, ⟨(Bel.refl _).drew⟩⟩
     ·have hi1 : 0 < i := Nat.pos_of_ne_zero hi0
      have AI := Ho.mk (fun w (g : Bel wr w) => A0.out i hi1 hlt w ((gr2_bel G0.out b b').trans (HG.out.tb g)))
      go_wp2_with (go_at_call 112; (with_reducible refine (AI.out _ (Bel.refl _).drew).mono ?_); rintro e w7 ⟨r7, s7, rfl, l7, c7, b7⟩; have H7 := Ho.mk (And.intro l7 c7); clear l7 c7)
      have TU := Ho.mk (fun w => P2.dCTurn w H12.out.1.1 H12.out.2.1 H7.out.1.1 H7.out.1.2)
      go_wp2_with (go_at_call 93; (with_reducible refine (TU.out _).mono ?_); rintro e w8 ⟨r8, s8, rfl, l8, c8, b8⟩; have H8 := Ho.mk (And.intro l8 c8); clear l8 c8)
      go_meet
      exact ⟨r8, s8, rfl, rfl, ⟨H8.out.1.1, H8.out.1.2⟩, ⟨by rw [tw1, if_neg hi0, H8.out.2.1, H12.out.1.2, H12.out.2.2, H7.out.2.1, H7.out.2.2]; rfl, by rw [tw1, if_neg hi0, H8.out.2.2, H12.out.1.2, H12.out.2.2, H7.out.2.1, H7.out.2.2]; rfl⟩, ⟨((Bel.refl _).drew.trans b7).trans b8⟩⟩
    case rest =>
     obtain ⟨r, s, rfl, rfl, HR, HC, HB⟩ := hcut
     have KE2 := Ho.mk ((KE1.out.bel HB.out).bel (Bel.refl _).drew)
     have KO2 := Ho.mk ((KO1.out.bel HB.out).bel (Bel.refl _).drew)
     have FX := Ho.mk ((FX.out.bel HB.out).bel (Bel.refl _).drew)
     have FY := Ho.mk ((FY.out.bel HB.out).bel (Bel.refl _).drew)
     have GR := Ho.mk ((HG.out.tb HB.out).drew)
     have LX := hL1
     have LY := hL2
     have AD := Ho.mk (fun w => P2.dCAdd w H34.out.1.1 H34.out.2.1 HR.out.1 HR.out.2)
     have SU := Ho.mk (fun w => P2.dCSub w H34.out.1.1 H34.out.2.1 HR.out.1 HR.out.2)
     have e0 := HB.out.cell e0
     have e1 := HB.out.cell e1
     have y3 := HB.out.cell y3
     have y4 := HB.out.cell y4
     clear o0 o1 y1 y2 KE1 KO1 HB HG hL1 hL2
     go_upto_region 10 with fail
     go_region
     go_upto_region 11 with fail
     clear e0 e1 y3 y4
     generalize wc.drew = wz at *
     refine wp_region_held_drew (S := fun w' => Blk w' bE 46 [.slice (some ⟨b, f, none⟩) half c, .slice (some ⟨b', f, none⟩) half c']) (by kernel_rfl) (KE2.out.bel (Bel.refl _).drew) (fun hHeld => ?_)
     (try dsimp only at hHeld)
     refine rt (i := 0) hHeld ?_
     refine rl (i := 1) (v := ?_) hHeld (fun w hSw => ?_) ?_
     rotate_left
     ·(have z0 := hSw.cell (i := 0) rfl; have z1 := hSw.cell (i := 1) rfl; go_simp; try (with_reducible rfl))
     refine rt (i := 2) hHeld ?_
     refine rt (i := 3) hHeld ?_
     refine rl (i := 4) (v := ?_) hHeld (fun w hSw => ?_) ?_
     rotate_left
     ·(have z0 := hSw.cell (i := 0) rfl; have z1 := hSw.cell (i := 1) rfl; go_simp; try (with_reducible rfl))
     refine rt (i := 5) hHeld ?_
     refine rt (i := 6) hHeld ?_
     refine rt (i := 7) hHeld ?_
     refine rt (i := 8) hHeld ?_
     refine rt (i := 9) hHeld ?_
     try simp only [Act.put, Ow.zS, Ow.zC, Ow.zD]
     refine rc (i := 10) (fun K hK => ?_)
     go_simp
     go_at_call 122
     (with_reducible refine (AD.out _).mono ?_); rintro e wqa ⟨ra, sa, rfl, la, ca, bqa⟩
     try go_wp2_with fail
     refine hK.out _ _ (Blk.bel hHeld bqa) (fun hHeld => ?_)
     clear hK K
     refine rt (i := 11) hHeld ?_
     refine rt (i := 12) hHeld ?_
     refine rt (i := 13) hHeld ?_
     refine rt (i := 14) hHeld ?_
     have FX := Ho.mk (FX.out.bel ((Bel.refl wz).drew.trans bqa))
     have FY := Ho.mk (FY.out.bel ((Bel.refl wz).drew.trans bqa))
     have GR := Ho.mk (GR.out.tb ((Bel.refl wz).drew.trans bqa))
     obtain ⟨_, p1, _, _⟩ := FX.out.at_ (i := f + i) (by rw [LX.out]; omega)
     have p2 := FX.out.free (f + i)
     try simp only [Act.put, Ow.zS, Ow.zC, Ow.zD]
     refine rc (i := 15) (fun K hK => ?_)
     go_simp
     refine hK.out _ _ (Blk.far hHeld (p := ⟨b, f + i, none⟩) (by dsimp only; exact NE.out.1.1) _) (fun hHeld => ?_)
     clear hK K
     have FX := Ho.mk (FX.out.set (f + i) la.1 ca.1)
     have FY := Ho.mk (FY.out.far (p := ⟨b, f + i, none⟩) (by dsimp only; exact Ne.symm hb) (.float .f64 ra))
     have GR := Ho.mk (GR.out.set (p := ⟨b, f + i, none⟩) (.inl rfl) (.float .f64 ra))
     clear p1 p2
     generalize World.setCell wqa ⟨b, f + i, none⟩ (.float .f64 ra) = wra at *
     refine rt (i := 16) hHeld ?_
     obtain ⟨_, p1, _, _⟩ := FY.out.at_ (i := f + i) (by rw [LY.out]; omega)
     have p2 := FY.out.free (f + i)
     try simp only [Act.put, Ow.zS, Ow.zC, Ow.zD]
     refine rc (i := 17) (fun K hK => ?_)
     go_simp
     refine hK.out _ _ (Blk.far hHeld (p := ⟨b', f + i, none⟩) (by dsimp only; exact NE.out.1.2) _) (fun hHeld => ?_)
     clear hK K
     have FY := Ho.mk (FY.out.set (f + i) la.2 ca.2)
     have FX := Ho.mk (FX.out.far (p := ⟨b', f + i, none⟩) (by dsimp only; exact hb) (.float .f64 sa))
     have GR := Ho.mk (GR.out.set (p := ⟨b', f + i, none⟩) (.inr rfl) (.float .f64 sa))
     clear p1 p2
     generalize World.setCell wra ⟨b', f + i, none⟩ (.float .f64 sa) = wsa at *
     try simp only [Act.put, Ow.zS, Ow.zC, Ow.zD]
     refine wpAnyH_done (by kernel_rfl) ?_ _
     have LX : Ho ((st.1.set (f + i) (fadd (cn r3) (cn r))).length = N) := ⟨by rw [List.length_set]; exact LX.out⟩
     have LY : Ho ((st.2.set (f + i) (fadd (cn r4) (cn s))).length = N) := ⟨by rw [List.length_set]; exact LY.out⟩
     go_upto_region 12 with fail
     have KO2 := Ho.mk (GR.out.blk KO.out NE.out.2.1 NE.out.2.2)
     clear hHeld
     refine wp_region_held_drew (S := fun w' => Blk w' bO 46 [.slice (some ⟨b, f + half, none⟩) half (c - half), .slice (some ⟨b', f + half, none⟩) half (c' - half)]) (by kernel_rfl) (KO2.out.bel (Bel.refl _).drew) (fun hHeld => ?_)
     (try dsimp only at hHeld)
     refine rt (i := 0) hHeld ?_
     refine rl (i := 1) (v := ?_) hHeld (fun w hSw => ?_) ?_
     rotate_left
     ·(have z0 := hSw.cell (i := 0) rfl; have z1 := hSw.cell (i := 1) rfl; go_simp; try (with_reducible rfl))
     refine rt (i := 2) hHeld ?_
     refine rt (i := 3) hHeld ?_
     refine rl (i := 4) (v := ?_) hHeld (fun w hSw => ?_) ?_
     rotate_left
     ·(have z0 := hSw.cell (i := 0) rfl; have z1 := hSw.cell (i := 1) rfl; go_simp; try (with_reducible rfl))
     refine rt (i := 5) hHeld ?_
     refine rt (i := 6) hHeld ?_
     refine rt (i := 7) hHeld ?_
     refine rt (i := 8) hHeld ?_
     refine rt (i := 9) hHeld ?_
     try simp only [Act.put, Ow.zS, Ow.zC, Ow.zD]
     refine rc (i := 10) (fun K hK => ?_)
     go_simp
     go_at_call 123
     (with_reducible refine (SU.out _).mono ?_); rintro e wqb ⟨rb, sb, rfl, lb, cb, bqb⟩
     try go_wp2_with fail
     refine hK.out _ _ (Blk.bel hHeld bqb) (fun hHeld => ?_)
     clear hK K
     refine rt (i := 11) hHeld ?_
     refine rt (i := 12) hHeld ?_
     refine rt (i := 13) hHeld ?_
     refine rt (i := 14) hHeld ?_
     have FX := Ho.mk (FX.out.bel ((Bel.refl wsa).drew.trans bqb))
     have FY := Ho.mk (FY.out.bel ((Bel.refl wsa).drew.trans bqb))
     have GR := Ho.mk (GR.out.tb ((Bel.refl wsa).drew.trans bqb))
     obtain ⟨_, p1, _, _⟩ := FX.out.at_ (i := f + half + i) (by rw [LX.out]; omega)
     have p2 := FX.out.free (f + half + i)
     try simp only [Act.put, Ow.zS, Ow.zC, Ow.zD]
     refine rc (i := 15) (fun K hK => ?_)
     go_simp
     refine hK.out _ _ (Blk.far hHeld (p := ⟨b, f + half + i, none⟩) (by dsimp only; exact NE.out.2.1) _) (fun hHeld => ?_)
     clear hK K
     have FX := Ho.mk (FX.out.set (f + half + i) lb.1 cb.1)
     have FY := Ho.mk (FY.out.far (p := ⟨b, f + half + i, none⟩) (by dsimp only; exact Ne.symm hb) (.float .f64 rb))
     have GR := Ho.mk (GR.out.set (p := ⟨b, f + half + i, none⟩) (.inl rfl) (.float .f64 rb))
     clear p1 p2
     generalize World.setCell wqb ⟨b, f + half + i, none⟩ (.float .f64 rb) = wrb at *
     refine rt (i := 16) hHeld ?_
     obtain ⟨_, p1, _, _⟩ := FY.out.at_ (i := f + half + i) (by rw [LY.out]; omega)
     have p2 := FY.out.free (f + half + i)
     try simp only [Act.put, Ow.zS, Ow.zC, Ow.zD]
     refine rc (i := 17) (fun K hK => ?_)
     go_simp
     refine hK.out _ _ (Blk.far hHeld (p := ⟨b', f + half + i, none⟩) (by dsimp only; exact NE.out.2.2) _) (fun hHeld => ?_)
     clear hK K
     have FY := Ho.mk (FY.out.set (f + half + i) lb.2 cb.2)
     have FX := Ho.mk (FX.out.far (p := ⟨b', f + half + i, none⟩) (by dsimp only; exact hb) (.float .f64 sb))
     have GR := Ho.mk (GR.out.set (p := ⟨b', f + half + i, none⟩) (.inr rfl) (.float .f64 sb))
     clear p1 p2
     generalize World.setCell wrb ⟨b', f + half + i, none⟩ (.float .f64 sb) = wsb at *
     try simp only [Act.put, Ow.zS, Ow.zC, Ow.zD]
     refine wpAnyH_done (by kernel_rfl) ?_ _
     clear hHeld
     go_wp2_with fail
     go_roundw
     case rel =>
      have e : mergeS f half tw (X, Y) (i + 1) = ((st.1.set (f + i) (fadd (cn r3) (cn r))).set (f + half + i) (fsub (cn r3) (cn r)), (st.2.set (f + i) (fadd (cn r4) (cn s))).set (f + half + i) (fsub (cn r4) (cn s))) := by
       rw [mergeS_succ, ← HST.out, H34.out.1.2, H34.out.2.2, HC.out.1, HC.out.2]; rfl
      refine ⟨i + 1, by omega, by simp, ⟨?_⟩, ⟨?_⟩, GR⟩
      ·rw [e]; exact FX.out
      ·rw [e]; exact FY.out
     case measure => simp [intOf]; omega
   ·obtain rfl : i = half := by omega
    go_wp2
    go_end0
    exact ⟨rfl, FX.out, FY.out, (gr2_bel G0.out b b').trans HG.out⟩
end P7
end Go.Proofs.YtalbgklfhabnkaaGreatDoor
