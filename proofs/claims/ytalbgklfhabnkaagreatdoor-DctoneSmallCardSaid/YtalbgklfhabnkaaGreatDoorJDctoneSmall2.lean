/-
  Joined, of what this claim leans on: Kc, Ka, Y7, Pk, Lv, Z4, Kb, Kd, Ke, Le, Kf, Ln, Lj, Z5, Z6, Lp.
-/
import Derived.Laws.CopyOwn
import Derived.Test.YtalbgklfhabnkaaGreatDoorJDctoneSmall1
set_option linter.unusedVariables false
set_option linter.unusedSimpArgs false
set_option maxRecDepth 100000
set_option maxHeartbeats 16000000
namespace Go.Proofs.YtalbgklfhabnkaaGreatDoor
namespace Kc
open Ieee Go Go.RowKit Go.Proofs Go.Proofs.YtalbgklfhabnkaaGreatDoor Ow Pl Dp Dt Gp F1 P3 P4 Y6
attribute [local go_sem ↓] Go.wp_at_zero Go.wp_at_succ
theorem dLogE {n : Nat} (w : World) (h : n < 1000) (T : Tab w) : Calls Tryz.prog 276 #[.int .i64 (n : Int)] w fun e w' => e = .returned (.int .i64 (logI n)) ∧ w = w' := by
 have TT := Ho.mk T
 clear T
 obtain ⟨k, hk⟩ : ∃ k : Int, k = (n : Int) := ⟨_, rfl⟩
 by_cases h0 : n = 0
 ·subst h0
  have e : logI 0 = -1 := by decide
  rw [e]
  go_enter Tryz.func276, Tryz.ntmps276
  go_wp2
  go_ret
  exact ⟨rfl, rfl⟩
 ·obtain ⟨f1, f2⟩ := log_fact (n := n) (by omega) h0
  have hk0 : 0 < k := by omega
  have hk1 : k < 1000 := by omega
  by_cases hp : 2 ^ Nat.log2 n = n
  ·have hb : bits .and .i64 k (k - 1) = 0 := by rw [hk]; exact f1.2 hp
   have HE := Ho.mk (show logI n = (Nat.log2 n : Int) by unfold logI; rw [if_pos ⟨h0, hp, by omega⟩])
   have HT := Ho.mk (f2 hp)
   rw [HE.out, ← hk]
   have HK := Ho.mk hk
   clear f1 f2 hp h0 hk
   go_enter Tryz.func276, Tryz.ntmps276
   go_wp2_with (go_at_call 39; (with_reducible refine (E1.tz_callsI _ _ (by omega) (by omega) TT.out).mono ?_); rintro e w' ⟨rfl, rfl⟩)
   go_ret
   refine ⟨?_, rfl⟩
   rw [show k.toNat = n by have := HK.out; omega, HT.out]; rfl
  ·have hb : (bits .and .i64 k (k - 1) != 0) = true := by rw [hk]; exact bne_iff_ne.2 fun e => hp (f1.1 e)
   have HE : logI n = -1 := by unfold logI; rw [if_neg (fun q => hp q.2.1)]
   rw [HE, ← hk]
   clear f1 f2 hp h0 hk HE
   go_enter Tryz.func276, Tryz.ntmps276
   go_wp2
   go_ret
   exact ⟨rfl, rfl⟩
theorem log_7 {n : Nat} (h : n ≤ 130) : -1 ≤ logI n ∧ logI n ≤ 9 := by
 unfold logI
 split
 ·rename_i q
  rcases Nat.lt_or_ge (Nat.log2 n) 10 with c | c
  ·omega
  ·have := Nat.pow_le_pow_right (n := 2) (by omega) c
   rw [q.2.1] at this; omega
 ·omega
theorem dPlainE {n : Nat} (w : World) (h : n ≤ 130) (T : Tab w) : Calls Tryz.prog 275 #[.agg #[.int .i64 9], .int .i64 (n : Int)] w fun e w' => (∃ z, e = .returned (.int .i64 z) ∧ decide (1 ≤ z) = okR n) ∧ Bel w w' := by
 have TT := Ho.mk T
 clear T
 obtain ⟨z, hz⟩ : ∃ z, z = logI n := ⟨_, rfl⟩
 obtain ⟨l1, l2⟩ := log_7 h
 have C := Ho.mk (fun (w : World) (T : Tab w) => dLogE w (show n < 1000 by omega) T)
 rw [← hz] at C l1 l2
 have hok := Ho.mk (show okR n = decide (1 ≤ z) by rw [hz]; rfl)
 rw [hok.out]
 clear hz
 have K := Ho.mk (Blk.new w [.int .i64 9] 201)
 have y0 := K.out.cell (i := 0) rfl
 have B := Ho.mk ((Bel.refl w).alloc (.cells #[.int .i64 9] 201))
 go_enter Tryz.func275, Tryz.ntmps275
 go_wp2_with fail
 (with_reducible refine (C.out _ (TT.out.bel B.out)).mono ?_); rintro e w1 ⟨rfl, rfl⟩
 by_cases h1 : 1 ≤ z
 ·go_wp2
  go_ret
  exact ⟨⟨z, rfl, rfl⟩, B.out⟩
 ·go_wp2
  go_ret
  exact ⟨⟨-1, rfl, by simp [h1]⟩, B.out⟩
def okS (s : Bool) (n : Nat) : Bool := if s then okR (n + 1) else okR (n - 1)
theorem ok_zero : okR 0 = false := by decide
theorem ok_one : okR 1 = false := by decide
theorem dEnds {n : Nat} {s : Bool} (w : World) (h0 : 1 ≤ n) (h : n ≤ 129) (T : Tab w) : Calls Tryz.prog 279 #[.agg #[.int .i64 9, .bool s], .int .i64 (n : Int)] w fun e w' => (∃ z, e = .returned (.int .i64 z) ∧ decide (1 ≤ z) = okS s n) ∧ Bel w w' := by
 have TT := Ho.mk T
 clear T
 have K := Ho.mk (Blk.new w [.int .i64 9, .bool s] 205)
 obtain ⟨y0, y1⟩ := K.out.c2
 have B := Ho.mk ((Bel.refl w).alloc (.cells #[.int .i64 9, .bool s] 205))
 have C := Ho.mk (fun (w : World) (m : Nat) (h : m ≤ 130) (T : Tab w) => dPlainE w h T)
 have Q := Ho.mk (show (n : Int) + 1 = ((n + 1 : Nat) : Int) ∧ (n : Int) - 1 = ((n - 1 : Nat) : Int) by omega)
 cases s with
 | true =>
  go_enter Tryz.func279, Tryz.ntmps279
  go_wp2_with fail
  rw [Q.out.1]
  (with_reducible refine (C.out _ (n + 1) (by omega) (TT.out.bel B.out)).mono ?_); rintro e w1 ⟨⟨z, rfl, hz⟩, b⟩
  go_wp2
  go_ret
  exact ⟨⟨z, rfl, hz⟩, B.out.trans b⟩
 | false =>
  go_enter Tryz.func279, Tryz.ntmps279
  go_wp2_with fail
  rw [Q.out.2]
  (with_reducible refine (C.out _ (n - 1) (by omega) (TT.out.bel B.out)).mono ?_); rintro e w1 ⟨⟨z, rfl, hz⟩, b⟩
  go_wp2
  go_ret
  exact ⟨⟨z, rfl, hz⟩, B.out.trans b⟩
def kS (s : Bool) : Int := if s then 7 else 3
theorem dOfS {s : Bool} (w : World) : Calls Tryz.prog 117 #[.int .i64 (kS s)] w fun e w' => e = .returned (.iface 205 (.agg #[.int .i64 9, .bool s])) ∧ Bel w w' := by
 cases s with
 | true =>
  simp only [kS]
  go_enter Tryz.func117, Tryz.ntmps117
  go_wp2
  go_ret
  exact ⟨rfl, (Bel.refl w).alloc _⟩
 | false =>
  simp only [kS]
  go_enter Tryz.func117, Tryz.ntmps117
  go_wp2
  go_ret
  exact ⟨rfl, (Bel.refl w).alloc _⟩
theorem dFitsE {n : Nat} {s : Bool} (w : World) (h : n ≤ 129) (T : Tab w) : Calls Tryz.prog 83 #[.int .i64 (kS s), .int .i64 (n : Int)] w fun e w' => e = .returned (.bool (okS s n)) ∧ Bel w w' := by
 have TT := Ho.mk T
 clear T
 have C := Ho.mk (dOfS (s := s) w)
 have hm : ∀ w, (method 405 205 (.agg #[.int .i64 9, .bool s]) "overtone/exact.power").run Tryz.prog w = .ok (279, .agg #[.int .i64 9, .bool s]) w := fun _ => by cases s <;> kernel_rfl
 have hq : ∀ w, (binOp .neq 155 (.iface 205 (.agg #[.int .i64 9, .bool s])) .nilIface).run Tryz.prog w = .ok (.bool true) w := fun _ => rfl
 obtain ⟨k, hk⟩ : ∃ k, k = kS s := ⟨_, rfl⟩
 rw [← hk] at C ⊢
 clear hk
 by_cases h0 : n = 0
 ·subst h0
  rw [show okS s 0 = false by cases s; exact ok_zero; exact ok_one]
  go_enter Tryz.func83, Tryz.ntmps83
  go_wp2_with fail
  (with_reducible refine C.out.mono ?_); rintro e w1 ⟨rfl, b⟩
  go_wp2
  go_ret
  exact ⟨rfl, b⟩
 ·have E := Ho.mk (fun (w : World) (T : Tab w) => dEnds (s := s) w (show 1 ≤ n by omega) h T)
  obtain ⟨m, hm2⟩ : ∃ m : Int, m = (n : Int) := ⟨_, rfl⟩
  have h0i : 0 < m := by omega
  have h1i : m < 1048576 := by omega
  rw [← hm2] at E ⊢
  clear hm2 h h0
  go_enter Tryz.func83, Tryz.ntmps83
  go_wp2_with fail
  (with_reducible refine C.out.mono ?_); rintro e w1 ⟨rfl, b⟩
  go_wp2_with fail
  (with_reducible refine (E.out _ (TT.out.bel b)).mono ?_); rintro e w2 ⟨⟨z, rfl, hz⟩, b2⟩
  have HZ := Ho.mk hz
  clear hz
  go_wp2
  go_ret
  exact ⟨by rw [HZ.out]; rfl, b.trans b2⟩
end Kc
namespace Ka
open Ieee Go Go.RowKit Go.Proofs Go.Proofs.YtalbgklfhabnkaaGreatDoor Ow Dt Gp I0 U0 W0 S4 S6 P0 M0 M1 M3 W4 W5 V2 P4 Y3 Yh
open Go.Proofs.YtalbgklfhabnkaaGreatDoor.V1 (NI St ni_same ni_loop St.refl St.of_bel blk_keep ni_blk put_st)
open Go.Proofs.YtalbgklfhabnkaaGreatDoor.C6 (leaveAny)
open Go.Proofs.YtalbgklfhabnkaaGreatDoor.Pg (In)
open Go.Proofs.YtalbgklfhabnkaaGreatDoor.J2 (Oz NP np_zero ni_np)
open Go.Proofs.YtalbgklfhabnkaaGreatDoor.S4 (infoF)
attribute [local go_sem ↓] Go.wp_at_zero Go.wp_at_succ
theorem run_appM {P : Program} (w : World) (t ty e : TypeId) (i : TypeInfo) (z : Value) (sz bytes : Nat) (ht : P.underlying t = some (.slice e)) (hi : P.info? e = some i) (hz : i.zero = some z)
  (hsize : i.size = sz) (hby : i.bytes = bytes) (hzs : z.cells.size = sz) (hsz : 0 < sz) (hzn : NP z.cells.toList)
  (v : Value) (n : Nat) (xs : List Value) (hown : Oz w e sz v n xs)
  (a : Addr) (m c : Nat) (h0 : 0 < m) (news : List Value) (hl : news.length = m * sz) (hnews : ∀ j u, news[j]? = some u → w.cell? (a.add j) = some u) (h1 : ∀ u ∈ news, u.oneCell' = true) (hnp : NP news)
  (h63 : n ≤ 1000000) (h64 : m ≤ 1000000) (hbytes : bytes ≤ 10000) :
  ∃ v' w', (Builtin.append_ #[t, t] ty #[v, .slice (some a) m c]).run P w = .ok v' w' ∧ Oz w' e sz v' (n + m) (xs ++ news) ∧ (w'.os = w.os ∧ w'.tape = w.tape ∧ w'.output = w.output ∧ w.heap.size ≤ w'.heap.size) ∧
   (∀ k, k < w.heap.size → w'.heap[k]? = w.heap[k]? ∨ (v.ownBlock = some k ∧ NI w k)) ∧ (v'.ownBlock = v.ownBlock ∨ v'.ownBlock = some w.heap.size) := by
 subst hsize
 subst hby
 have hb2 : (n + m) * i.bytes ≤ 140737488355328 := Nat.le_trans (Nat.mul_le_mul (show n + m ≤ 2000000 by omega) hbytes) (by decide)
 have hml : n + m ≤ maxLen := by simp only [maxLen]; omega
 have hlen : (xs ++ news).length = (n + m) * i.size := by rw [List.length_append, hown.len, hl, Nat.add_mul]
 have grown : ∀ old, NP xs → Oz (w.drew.alloc (.cells (xs.toArray ++ news.toArray ++ Builtin.zeroCells z.cells (grownCap w (n + m) old e - (n + m))) e)) e i.size (.slice (some ⟨w.heap.size, 0, none⟩) (n + m) (grownCap w (n + m) old e)) (n + m) (xs ++ news) ∧
   ∀ k, k < w.heap.size → (w.drew.alloc (.cells (xs.toArray ++ news.toArray ++ Builtin.zeroCells z.cells (grownCap w (n + m) old e - (n + m))) e)).heap[k]? = w.heap[k]? := by
  intro old hxs
  have hge := grownCap_ge w (n + m) old e
  refine ⟨⟨hlen, .inr ⟨w.heap.size, _, _, rfl, World.alloc_heap_new w.drew _, hge, grownCap_le_maxLen w (n + m) old e hml, ?_, ?_, ?_⟩⟩, fun k hk => Below.heap_alloc w.drew _ _ hk⟩
  ·simp only [Array.size_append, List.size_toArray, size_zeroCells, hzs, hown.len, hl]
   rw [← Nat.add_mul, ← Nat.add_mul]
   congr 1
   omega
  ·simp only [Array.toList_append, List.append_assoc]
   rw [← List.append_assoc]
   exact List.take_left
  ·simp only [Array.toList_append]
   exact (hxs.app hnp).app (np_zero hzn (by omega) _)
 rcases hown.row with ⟨rfl, rfl⟩ | ⟨g, cap, cur, rfl, hg, hnc, hcm, hcs, htake, hnpc⟩
 ·have hx : xs = [] := List.eq_nil_of_length_eq_zero (by simpa using hown.len)
  subst hx
  have hr := run_append_nil (P := P) w t ty e i z ht hi hz a m c news hl hnews h0 (by omega) (by simp at hb2; omega)
  obtain ⟨g1, g2⟩ := grown 0 (fun x hx => by simp at hx)
  simp only [Nat.zero_add, List.nil_append, Array.empty_append] at g1 g2 ⊢
  exact ⟨_, _, hr, g1, ⟨rfl, rfl, rfl, by simp⟩, fun k hk => .inl (g2 k hk), .inr rfl⟩
 ·have hxn : NP xs := fun x hx => hnpc x (List.mem_of_mem_take (by rw [htake]; exact hx))
  by_cases hroom : n + m ≤ cap
  ·have hfit : n * i.size + news.length ≤ cur.size := by
    rw [hl, hcs, ← Nat.add_mul]; exact Nat.mul_le_mul_right _ hroom
   have hr := run_append_room (P := P) w t ty e i ht hi g n cap cur hg a m c news hl hnews h1 hroom hfit
   have e1 : cur.toList.take (n * i.size) = xs := by rw [← hown.len]; exact htake
   refine ⟨_, _, hr, ⟨hlen, .inr ⟨g, cap, _, rfl, setRow_heap w g cur _ e _ hg, hroom, hcm, ?_, ?_, ?_⟩⟩, ⟨rfl, rfl, rfl, by simp [World.setRow]⟩, fun k hk => ?_, .inl rfl⟩
   ·simp only [List.size_toArray, List.length_append, List.length_take, List.length_drop, Array.length_toList]
    omega
   ·simp only [e1]; exact List.take_left
   ·simp only [e1]
    exact (hxn.app hnp).app fun x hx => hnpc x (List.mem_of_mem_drop hx)
   ·by_cases ek : k = g
    ·subst ek; exact .inr ⟨rfl, ni_np hg hnpc⟩
    ·exact .inl (setRow_other w g k _ ek)
  ·have holds : ∀ j u, xs[j]? = some u → w.cell? ((⟨g, 0, none⟩ : Addr).add j) = some u := by
    intro j u hj
    rw [← htake, List.getElem?_take] at hj
    split at hj
    ·rw [Addr.add_lit]
     simp only [World.cell?, hg, Nat.zero_add]
     simpa using hj
    ·cases hj
   have hr := run_append_grow (P := P) w t ty e i z ht hi hz ⟨g, 0, none⟩ n cap xs hown.len holds a m c news hl hnews (by omega) (by omega) (growslice_fits (by omega) hb2)
   obtain ⟨g1, g2⟩ := grown cap hxn
   exact ⟨_, _, hr, g1, ⟨rfl, rfl, rfl, by simp⟩, fun k hk => .inl (g2 k hk), .inr rfl⟩
theorem fc_np {cs : List Value} {X : List Nat} (h : ∀ j u, cs[j]? = some u → Fc u (nthN X j)) : NP cs := fun x hx z e => by
 obtain ⟨j, hj, rfl⟩ := List.getElem_of_mem hx
 obtain ⟨b, e2, _⟩ := h j _ (List.getElem?_eq_getElem hj)
 rw [e2] at e; cases e
theorem Og.lit {w : World} {g : Nat} (K : Blk w g 22 []) : Og w (.slice (some ⟨g, 0, none⟩) 0 0) [] :=
 ⟨[], ⟨rfl, .inr ⟨g, 0, #[], rfl, K.out, Nat.le_refl _, by decide, rfl, rfl, fun x hx => by simp at hx⟩⟩, fun j u h => by simp at h⟩
theorem wp_appR {w : World} {o : Oper} {a : Act} {K : Act → World → Prop} {Q : Exit → Act → World → Prop} (s x : Operand) (ho : o.op = .call { callee := .builtin .append, args := #[s, x], argTypes := #[25, 25] })
  {v u : Value} {Z Y : List Nat} (H : Og w v Z) (hs : a.eval s = v) (hx : a.eval x = u) (hin : In w u Y) (hl : Z.length ≤ 100000) (hl' : Y.length ≤ 100000)
  (h : ∀ A c w', Og w' (.slice A (Z ++ Y).length c) (Z ++ Y) → Ap w w' v (.slice A (Z ++ Y).length c) → K (a.put o.dst (.slice A (Z ++ Y).length c)) w') : o.wp Tryz.prog a w K Q := by
 obtain ⟨A1, c1, rfl, h2, h3, h4, h5⟩ := hin.out
 obtain ⟨i, hi, hzz⟩ := Option.map_eq_some_iff.1 infoF
 have hzz' := hzz
 simp only [Prod.mk.injEq] at hzz
 obtain ⟨hz, hsz, hb⟩ := hzz
 obtain ⟨A0, c0, rfl⟩ := H.slice
 rcases Nat.eq_zero_or_pos Y.length with h0 | hp
 ·obtain rfl := List.length_eq_zero_iff.1 h0
  have hrun : (Builtin.append_ #[25, 25] o.type #[.slice A0 Z.length c0, .slice A1 0 c1]).run Tryz.prog w = .ok (.slice A0 Z.length c0) w := by
   have hzc : Z.length ≤ c0 := by
    rcases A0 with _ | ad
    ·obtain ⟨cs, k1, _⟩ := H.out
     rcases k1.row with ⟨e, e2⟩ | ⟨g, cap, cur, e, _⟩
     ·simp only [Value.slice.injEq] at e; omega
     ·cases e
    ·by_cases q : 0 < Z.length
     ·obtain ⟨g, c', e, l⟩ := H.form q
      cases e; exact l
     ·omega
   cases A1 <;> simp [Builtin.append_, run_underlying Tryz.underlying25, sizeOf, typeInfo, hi, storeCells, Builtin.lenOf, Builtin.firstCells, loadCells, loadCellsFrom, hzc]
   all_goals (cases A0 <;> simp [storeCells])
  have fin := h A0 c0 w (by rw [List.append_nil]; exact H) (by rw [List.append_nil]; exact ⟨rfl, rfl, rfl, Nat.le_refl _, fun _ _ _ => rfl, .inl rfl⟩)
  rw [List.append_nil] at fin
  unfold Oper.wp
  simp [execOp, ho, resolve, invoke, builtin, hs, hx, hrun, Result.andThen]
  exact fin
 ·cases A1 with
  | none => have := h5 rfl; omega
  | some ad =>
   obtain ⟨news, k1, k2, k3⟩ := Fr.news h4
   obtain ⟨cs, h1, hc⟩ := H.out
   obtain ⟨v', w', hr', g1, g2, g3, g4⟩ := run_appM (P := Tryz.prog) w 25 o.type 22 i (.float .f64 0) 1 8 Tryz.underlying25 hi hz hsz hb rfl (by decide) (by intro u hu z e; simp [Value.cells] at hu; subst hu; cases e) _ Z.length cs h1 ad Y.length c1 hp news (by rw [k1, Nat.mul_one]) k2 (fc_one k3) (fc_np k3) (by omega) (by omega) (by omega)
   have hcl := h1.len
   have ho' : Og w' v' (Z ++ Y) := ⟨cs ++ news, by rw [List.length_append]; exact g1, fun j u hj => by
    rw [List.getElem?_append] at hj
    split at hj
    ·rename_i hlt
     have := hc j u hj
     rw [nthN_lt (by omega)] at this
     rw [nthN_lt (by rw [List.length_append]; omega), List.getElem_append_left (by omega)]; exact this
    ·rename_i hge
     have hj2 := (List.getElem?_eq_some_iff.1 hj).1
     have := k3 _ u hj
     rw [nthN_lt (by omega)] at this
     rw [nthN_lt (by rw [List.length_append]; omega), List.getElem_append_right (by omega)]
     have e : j - Z.length = j - cs.length := by omega
     simp only [e]; exact this⟩
   obtain ⟨A', c', e⟩ := ho'.slice
   have hap : Ap w w' (.slice A0 Z.length c0) v' := ⟨g2.1, g2.2.1, g2.2.2.1, g2.2.2.2, fun k hk hn => (g3 k hk).elim id (fun q => (hn q.1).elim), g4⟩
   have fin := h A' c' w' (e ▸ ho') (e ▸ hap)
   rw [← e] at fin
   unfold Oper.wp
   simp [execOp, ho, resolve, invoke, builtin, hs, hx, hr', Result.andThen]
   exact fin
theorem wpList_appR {w : World} {ops : Array Oper} {rest : List Oper} {o : Oper} {a : Act} {Q : Exit → Act → World → Prop} (hgd : o.guard = none) (s x : Operand) (ho : o.op = .call { callee := .builtin .append, args := #[s, x], argTypes := #[25, 25] })
  {v u : Value} {Z Y : List Nat} (H : Og w v Z) (hs : a.eval s = v) (hx : a.eval x = u) (hin : In w u Y) (hl : Z.length ≤ 100000) (hl' : Y.length ≤ 100000)
  (h : ∀ A c w', Og w' (.slice A (Z ++ Y).length c) (Z ++ Y) → Ap w w' v (.slice A (Z ++ Y).length c) → wpList Tryz.prog ops Q rest (a.put o.dst (.slice A (Z ++ Y).length c)) w') :
  wpList Tryz.prog ops Q (o :: rest) a w := wpList_plain hgd fun K hK' => wp_appR s x ho H hs hx hin hl hl' (fun A c w' a b => hK' _ _ (h A c w' a b))
theorem dCloneG {v : Value} {X : List Nat} (w : World) (h : In w v X) (hl : X.length ≤ 100000) : Calls Tryz.prog 101 #[v] w (MakesG w X) := by
 obtain ⟨A, c, rfl, h2, h3, h4, h5⟩ := h.out
 cases A with
 | none =>
  have h0 := h5 rfl
  obtain rfl := List.length_eq_zero_iff.1 h0
  have hnil := fun w => Lib.run_eql_slice_nil (P := Tryz.prog) w 25 22 none 0 c 0 0 Tryz.underlying25
  go_enter Tryz.func101, Tryz.ntmps101
  go_wp2
  go_ret
  exact ⟨none, 0, rfl, ⟨Og.nil _, fun g hg => (by cases hg)⟩, Bel.refl _⟩
 | some ad =>
  have hnil := fun w => Lib.run_eql_slice_nil (P := Tryz.prog) w 25 22 (some ad) X.length c 0 0 Tryz.underlying25
  have K0 := Ho.mk (Blk.new w [] 22)
  have B0 := Ho.mk ((Bel.refl w).alloc (.cells #[] 22))
  have I0 := Ho.mk (h.bel B0.out)
  clear h h2 h3 h4 h5
  go_enter Tryz.func101, Tryz.ntmps101
  go_wp2_with (at_builtin; refine wpList_appR rfl _ _ rfl (Og.lit K0.out) rfl rfl I0.out (by simp) hl ?_; intro A2 c2 w2 ho ha; rw [List.nil_append] at ho ha ⊢; have HO := Ho.mk ho; have HA := Ho.mk ha; clear ho ha)
  go_ret
  exact ⟨A2, c2, rfl, ⟨HO.out, fun g hg => by
   rcases HA.out.own with q | q
   ·rw [q] at hg; cases hg; exact Nat.le_refl _
   ·rw [q] at hg; cases hg; exact B0.out.size⟩, HA.out.bel B0.out (fun g hg => by cases hg; exact Nat.le_refl _)⟩
theorem in_part {w : World} {ad : Addr} {n c c' i m : Nat} {X Y : List Nat} (h : In w (.slice (some ad) n c) X) (hX : X.length = n) (hY : Y.length = m) (hi : i + m ≤ n) (hc : m ≤ c') (hc2 : c' ≤ 9223372036854775807) (e : ∀ j, j < m → nthN Y j = nthN X (i + j)) : In w (.slice (some (ad.add i)) m c') Y := by
 subst hX; subst hY
 obtain ⟨A1, c1, e1, h2, h3, h4, h5⟩ := h.out
 cases e1
 have hmx := h4.max
 refine ⟨some (ad.add i), c', rfl, hc, hc2, ⟨by omega, fun j hj => ?_⟩, fun q => by cases q⟩
 obtain ⟨ad', v, e2, hcell, hf⟩ := h4.cell (i + j) (by omega)
 cases e2
 exact ⟨ad.add i, v, rfl, by rw [add_add]; exact hcell, by rw [e j hj]; exact hf⟩
theorem og_ni {w : World} {g n c : Nat} {Z : List Nat} (h : Og w (.slice (some ⟨g, 0, none⟩) n c) Z) : NI w g := by
 obtain ⟨cs, h1, h2⟩ := h.out
 rcases h1.row with ⟨e, h0⟩ | ⟨g', cap, cur, e, hb, k1, k2, k3, k4, k5⟩
 ·cases e
 ·cases e; exact ni_np hb k5
theorem Og.inn {w : World} {v : Value} {Z : List Nat} (h : Og w v Z) (hl : Z.length ≤ 100000) : In w v Z := Pg.RowF.inn (Og.rowF (B := 0) h (fun _ _ => Nat.zero_le _)) (by omega)
end Ka
namespace Y7
open Ieee Go Go.RowKit Go.Proofs Go.Proofs.YtalbgklfhabnkaaGreatDoor Ow Dt Gp I0 U0 W0 S4 S6 P0 M0 M1 M3 W4 W5 V2 P4 Y3 Yh Y4 Y1 P8 Pc Y5 Y6
open Go.Proofs.YtalbgklfhabnkaaGreatDoor.V1 (NI St ni_same ni_loop St.refl St.of_bel blk_keep ni_blk put_st)
open Go.Proofs.YtalbgklfhabnkaaGreatDoor.C6 (leaveAny)
open Go.Proofs.YtalbgklfhabnkaaGreatDoor.Pg (In)
attribute [local go_sem ↓] Go.wp_at_zero Go.wp_at_succ
def binsRe (X : List Nat) : List Nat := if okR X.length then M2.evenG opsN X ++ [nthN (M2.oddG opsN X) 0] else []
def binsIm (X : List Nat) : List Nat := if okR X.length then (M2.oddG opsN X).set 0 0 ++ [0] else []
end Y7
namespace Pk
open Ieee Go Go.RowKit Go.Proofs Go.Proofs.YtalbgklfhabnkaaGreatDoor Ow Dt Gp I0 U0 W0 S4 S6 P0 M0 M1 M2 M3 P4 P5 P6 P8 W4 W5 W1 W2 Pc Pe Pg G1 G3
attribute [local go_sem ↓] Go.wp_at_zero Go.wp_at_succ
theorem take_succ_eq {X Y : List Nat} {i : Nat} (h : X.take i = Y.take i) (hx : i < X.length) (hy : i < Y.length) (e : nthN X i = nthN Y i) : X.take (i + 1) = Y.take (i + 1) := by
 rw [List.take_add_one, List.take_add_one, h, List.getElem?_eq_getElem hx, List.getElem?_eq_getElem hy]
 rw [nthN_lt hx, nthN_lt hy] at e
 rw [e]
theorem nth_ne {X Y : List Nat} {i : Nat} (h : nthN X i ≠ nthN Y i) : X ≠ Y := fun e => h (by rw [e])
theorem dSameRow {A B : Option Addr} {n m c c' : Nat} {X Y : List Nat} (W0 : World) (hx : Fr W0 A X) (hy : Fr W0 B Y) (hn : X.length = n) (hm : Y.length = m) (hl : n ≤ 100000) (hl' : m ≤ 100000) :
  Calls Tryz.prog 20 #[.slice A n c, .slice B m c'] W0 (fun e w' => e = .returned (.bool (decide (X = Y))) ∧ Bel W0 w') := by
 have FX := Ho.mk hx
 have FY := Ho.mk hy
 have HN := Ho.mk hn
 have HM := Ho.mk hm
 clear hx hy hn hm
 by_cases hnm : n = m
 ·subst hnm
  go_enter Tryz.func20, Tryz.ntmps20
  go_wp2_with fail
  go_loopw [5] (fun v wr => ∃ (i : Nat), i ≤ n ∧ v = .int .i64 i ∧ Ho (X.take i = Y.take i) ∧ Ho (Bel W0 wr)) (fun v _ => n - (intOf v).toNat)
  case atStart => exact ⟨0, Nat.zero_le _, rfl, ⟨by simp⟩, ⟨Bel.refl _⟩⟩
  case round =>
   obtain ⟨i, hi, rfl, HT, HW⟩ := hrel
   rcases Nat.lt_or_ge i n with hlt | hge
   ·obtain ⟨a1, r1, rfl, y1, l1, c1⟩ := FX.out.at_ (i := i) (by rw [HN.out]; exact hlt)
    obtain ⟨a2, r2, rfl, y2, l2, c2⟩ := FY.out.at_ (i := i) (by rw [HM.out]; exact hlt)
    have y1 := HW.out.cell y1
    have y2 := HW.out.cell y2
    have HC := Ho.mk (And.intro c1 c2)
    have HAL := Ho.mk (alike_cn l1 l2)
    clear c1 c2 l1 l2
    by_cases hc : cn r1 = cn r2
    ·have RS : Ho (∀ w, Calls Tryz.prog 47 #[.float .f64 r1, .float .f64 r2] w (Quiet w (.bool true))) := ⟨fun w => by have h := rsame_calls r1 r2 w; rw [HAL.out, decide_eq_true hc] at h; exact h⟩
     have HCC := Ho.mk hc
     clear hc
     go_upto_region 6 with fail
     refine wp_region_held_drew (S := fun w' => Bel wr w') (by kernel_rfl) (Bel.refl _).drew (fun hHeld => ?_)
     (try dsimp only at hHeld)
     generalize wr.drew = wd at *
     refine rt (i := 0) hHeld ?_
     refine rt (i := 1) hHeld ?_
     refine rt (i := 2) hHeld ?_
     refine rl (i := 3) (v := ?_) hHeld (fun w hSw => ?_) ?_
     rotate_left
     ·(have z0 := hSw.cell y1; have z1 := hSw.cell y2; go_simp; try (with_reducible rfl))
     refine rt (i := 4) hHeld ?_
     refine rt (i := 5) hHeld ?_
     refine rt (i := 6) hHeld ?_
     refine rl (i := 7) (v := ?_) hHeld (fun w hSw => ?_) ?_
     rotate_left
     ·(have z0 := hSw.cell y1; have z1 := hSw.cell y2; go_simp; try (with_reducible rfl))
     try simp only [Act.put, Ow.zS, Ow.zC, Ow.zD]
     refine rc (i := 8) (fun K hK => ?_)
     go_simp
     go_at_call 47
     (with_reducible refine (RS.out _).mono ?_); rintro e v1 ⟨rfl, hz⟩
     have bv1 : Bel wd v1 := by rw [hz]; exact Bel.refl _
     clear hz
     try go_wp2_with fail
     refine hK.out _ _ (Bel.trans hHeld bv1) (fun hHeld => ?_)
     clear hK K
     clear bv1
     refine rt (i := 9) hHeld ?_
     try simp only [Act.put, Ow.zS, Ow.zC, Ow.zD]
     refine wpAnyH_done (by kernel_rfl) ?_ _
     have HB := Ho.mk (HW.out.trans hHeld)
     clear hHeld
     go_wp2
     go_roundw
     case rel =>
      exact ⟨i + 1, by omega, by simp, ⟨take_succ_eq HT.out (by rw [HN.out]; exact hlt) (by rw [HM.out]; exact hlt) (by rw [← HC.out.1, ← HC.out.2]; exact HCC.out)⟩, HB⟩
     case measure => simp [intOf]; omega
    ·have RS : Ho (∀ w, Calls Tryz.prog 47 #[.float .f64 r1, .float .f64 r2] w (Quiet w (.bool false))) := ⟨fun w => by have h := rsame_calls r1 r2 w; rw [HAL.out, decide_eq_false hc] at h; exact h⟩
     have HCC := Ho.mk hc
     clear hc
     go_upto_region 6 with fail
     refine wp_region_held_drew (S := fun w' => Bel wr w') (by kernel_rfl) (Bel.refl _).drew (fun hHeld => ?_)
     (try dsimp only at hHeld)
     generalize wr.drew = wd at *
     refine rt (i := 0) hHeld ?_
     refine rt (i := 1) hHeld ?_
     refine rt (i := 2) hHeld ?_
     refine rl (i := 3) (v := ?_) hHeld (fun w hSw => ?_) ?_
     rotate_left
     ·(have z0 := hSw.cell y1; have z1 := hSw.cell y2; go_simp; try (with_reducible rfl))
     refine rt (i := 4) hHeld ?_
     refine rt (i := 5) hHeld ?_
     refine rt (i := 6) hHeld ?_
     refine rl (i := 7) (v := ?_) hHeld (fun w hSw => ?_) ?_
     rotate_left
     ·(have z0 := hSw.cell y1; have z1 := hSw.cell y2; go_simp; try (with_reducible rfl))
     try simp only [Act.put, Ow.zS, Ow.zC, Ow.zD]
     refine rc (i := 8) (fun K hK => ?_)
     go_simp
     go_at_call 47
     (with_reducible refine (RS.out _).mono ?_); rintro e v1 ⟨rfl, hz⟩
     have bv1 : Bel wd v1 := by rw [hz]; exact Bel.refl _
     clear hz
     try go_wp2_with fail
     refine hK.out _ _ (Bel.trans hHeld bv1) (fun hHeld => ?_)
     clear hK K
     clear bv1
     refine rt (i := 9) hHeld ?_
     try simp only [Act.put, Ow.zS, Ow.zC, Ow.zD]
     refine wpAnyH_done (by kernel_rfl) ?_ _
     have HB := Ho.mk (HW.out.trans hHeld)
     clear hHeld
     go_wp2
     go_ret
     exact ⟨by rw [decide_eq_false (nth_ne (i := i) (by rw [← HC.out.1, ← HC.out.2]; exact HCC.out))]; rfl, HB.out⟩
   ·obtain rfl : i = n := by omega
    go_wp2
    go_ret
    refine ⟨?_, HW.out⟩
    have := HT.out
    rw [List.take_of_length_le (by rw [HN.out]; exact Nat.le_refl _), List.take_of_length_le (by rw [HM.out]; exact Nat.le_refl _)] at this
    rw [decide_eq_true this]; rfl
 ·have hne : ¬ (n : Int) = (m : Int) := by omega
  go_enter Tryz.func20, Tryz.ntmps20
  go_wp2
  all_goals first
   | (exfalso; omega)
   | (go_ret; exact ⟨by rw [decide_eq_false (fun e => hnm (by rw [← HN.out, ← HM.out, e]))]; rfl, Bel.refl _⟩)
theorem dSameRowI {u v : Value} {X Y : List Nat} (w : World) (hx : In w u X) (hy : In w v Y) (hl : X.length ≤ 100000) (hl' : Y.length ≤ 100000) :
  Calls Tryz.prog 20 #[u, v] w (fun e w' => e = .returned (.bool (decide (X = Y))) ∧ Bel w w') := by
 obtain ⟨A, c, rfl, _, _, h1, _⟩ := hx.out
 obtain ⟨B, d, rfl, _, _, h2, _⟩ := hy.out
 exact dSameRow w h1 h2 rfl rfl hl hl'
end Pk
namespace Lv
open Ieee Go Go.RowKit Go.Proofs Go.Proofs.YtalbgklfhabnkaaGreatDoor Ow Dt Gp I0 U0 W0 S4 S6 P0 M0 M1 M2 M3 P4 P5 P6 P8 W4 W5 W1 W2 Pc Pe Pg Pk
theorem litRow {w : World} {b n : Nat} {cs : List Value} {X : List Nat} (K : Blk w b 22 cs) (hc : cs = X.map (.float .f64)) (hX : X.all (fun x => decide (x < 2 * sgnW) && (cn x == x)) = true) (hn : X.length = n) (hl : n ≤ 1000) : RowF w b (.slice (some ⟨b, 0, none⟩) n n) X := by
 subst hc; subst hn
 have hx : ∀ x ∈ X, x < 2 * sgnW ∧ cn x = x := fun x h => by
  have := List.all_eq_true.1 hX x h
  simpa using this
 exact RowF.of ⟨_, K, fun j hj => ⟨.float .f64 X[j], by simp [hj], X[j], rfl, (hx _ (List.getElem_mem hj)).1, by rw [nthN_lt hj]; exact (hx _ (List.getElem_mem hj)).2⟩⟩ (Nat.le_refl _) (Nat.le_refl _) (Nat.le_trans hl (by decide))
theorem In.len {w : World} {A : Option Addr} {n c : Nat} {X : List Nat} (h : In w (.slice A n c) X) : n = X.length := by
 obtain ⟨A1, c1, e, _⟩ := h.out
 cases e; rfl
theorem RowF.len {w : World} {B : Nat} {A : Option Addr} {n c : Nat} {X : List Nat} (h : RowF w B (.slice A n c) X) : n = X.length := by
 obtain ⟨A1, c1, e, _⟩ := h.out
 cases e; rfl
theorem inn {w : World} {B : Nat} {v : Value} {X : List Nat} (h : RowF w B v X) (hm : X.length ≤ 100000) : In w v X := RowF.inn h (by omega)
theorem in_nil (w : World) (A : Option Addr) : In w (.slice none 0 0) [] := ⟨none, 0, rfl, Nat.le_refl _, by decide, Fr.nil _ _, fun _ => rfl⟩
end Lv
namespace Z4
open Ieee Go Gp Gq Gr G9 U0 W0 W1 W2 M0 M1 M2 M3 Pc Pn Y1
theorem nth_map (f : Nat → Nat) {n i : Nat} (h : i < n) : nthN ((List.range n).map f) i = f i := nthG_map opsN f h
def revN (X : List Nat) : List Nat := (List.range X.length).map fun i => nthN X (X.length - 1 - i)
def mirN (s : Bool) (X : List Nat) : List Nat := (List.range (2 * (X.length - 1))).map fun i => if i < X.length then nthN X i else if s then fng (nthN X (2 * (X.length - 1) - i)) else nthN X (2 * (X.length - 1) - i)
def padN (X : List Nat) : List Nat := (List.range (X.length + 2)).map fun i => if i = 0 ∨ i = X.length + 1 then 0 else nthN X (i - 1)
theorem revN_len (X : List Nat) : (revN X).length = X.length := by simp [revN]
theorem mirN_len (s : Bool) (X : List Nat) : (mirN s X).length = 2 * (X.length - 1) := by simp [mirN]
theorem padN_len (X : List Nat) : (padN X).length = X.length + 2 := by simp [padN]
def dct1N (p : Nat) (X : List Nat) : List Nat := (List.range (2 ^ p + 1)).map fun i => fmul (nthN (rfftN (p + 1) (mirN false X)) (if i < 2 ^ p then 2 * i else 1)) halfW
def dst1N (p : Nat) (X : List Nat) : List Nat := (List.range (2 ^ p - 1)).map fun i => fmul (nthN (rfftN (p + 1) (mirN true (padN X))) (2 * (i + 1) + 1)) (fng halfW)
theorem dct1N_len (p : Nat) (X : List Nat) : (dct1N p X).length = 2 ^ p + 1 := by simp [dct1N]
theorem dst1N_len (p : Nat) (X : List Nat) : (dst1N p X).length = 2 ^ p - 1 := by simp [dst1N]
end Z4
namespace Kb
open Ieee Go Go.RowKit Go.Proofs Go.Proofs.YtalbgklfhabnkaaGreatDoor Ow Dt Gp I0 U0 W0 S4 S6 P0 M0 M1 M3 W4 W5 V2 P4 Y3 Yh Y4 Ka Y1 Z4
open Go.Proofs.YtalbgklfhabnkaaGreatDoor.V1 (NI St ni_same ni_loop St.refl St.of_bel blk_keep ni_blk put_st)
open Go.Proofs.YtalbgklfhabnkaaGreatDoor.C6 (leaveAny)
open Go.Proofs.YtalbgklfhabnkaaGreatDoor.Pg (In)
open Go.Proofs.YtalbgklfhabnkaaGreatDoor.S4 (infoF)
attribute [local go_sem ↓] Go.wp_at_zero Go.wp_at_succ
theorem idx_rev (X : List Nat) : idx X (steps ((X.length : Int) - 1) (-1) X.length) = revN X := by
 apply List.ext_getElem (by simp [idx, steps, revN])
 intro i h1 h2
 simp only [idx, steps, revN, List.getElem_map, List.getElem_range, List.length_map, List.length_range] at h1 ⊢
 congr 1; omega
theorem dRev {A : Option Addr} {c : Nat} {X : List Nat} (w : World) (hx : In w (.slice A X.length c) X) (hl : X.length ≤ 100000) :
  Calls Tryz.prog 65 #[.slice A X.length c] w (MakesG w (revN X)) := by
 have HX := Ho.mk hx
 have P := Ho.mk (dPlacesW (fr := ((X.length : Int) - 1)) (by' := (-1)) (en := (X.length : Int)) (m := X.length) w (by decide) (by omega) (by omega) (by decide) (fun k hk => by omega) (by omega))
 clear hx
 go_enter Tryz.func65, Tryz.ntmps65
 go_wp2_with fail
 (with_reducible refine P.out.mono ?_); rintro e w1 ⟨lb, rfl, hW, b1⟩
 have HW := Ho.mk hW
 have HB := Ho.mk b1
 clear P hW b1
 have C := Ho.mk (dPicked w1 (HX.out.bel HB.out) hl (fun i hi => by obtain ⟨k, h1, h2⟩ := steps_mem hi; omega) (by rw [steps_len]; omega) HW.out (fun args w => rfl))
 go_wp2_with fail
 (with_reducible refine C.out.mono ?_); rintro e w2 ⟨v, rfl, r, b2⟩
 have R := Ho.mk r
 have B2 := Ho.mk b2
 clear C r b2
 go_wp2
 go_ret
 have r := R.out
 rw [show (List.map (fun i => nthN X i.toNat) (steps ((X.length : Int) - 1) (-1) (X.length))) = (revN X) from idx_rev X] at r
 obtain ⟨A', c', e⟩ := r.1.slice
 subst e
 exact ⟨A', c', rfl, ⟨r.1, fun g hg => Nat.le_trans HB.out.size (r.2 g hg)⟩, HB.out.trans B2.out⟩
theorem dOppP {r : Nat} (w : World) (hr : r < 2 * sgnW) : Calls Tryz.prog 99 #[.float .f64 r] w (TellsC w (fng (cn r))) := by
 have HR := Ho.mk hr
 clear hr
 go_enter Tryz.func99, Tryz.ntmps99
 go_wp2
 go_ret
 exact ⟨_, rfl, fng_lt' HR.out, neg_cn HR.out, Bel.refl _⟩
def chgN (ys : List Int) (X : List Nat) : List Nat := (List.range X.length).map fun (i : Nat) => if (i : Int) ∈ ys then fng (nthN X i) else nthN X i
theorem chgN_len (ys : List Int) (X : List Nat) : (chgN ys X).length = X.length := by simp [chgN]
theorem chgN_nil (X : List Nat) : chgN [] X = X := by
 apply List.ext_getElem (by simp [chgN])
 intro i h1 h2
 simp only [chgN, List.getElem_map, List.getElem_range, List.not_mem_nil, if_false]
 exact nthN_lt h2
theorem chgN_at {ys : List Int} {X : List Nat} {i : Nat} (h : i < X.length) : nthN (chgN ys X) i = if (i : Int) ∈ ys then fng (nthN X i) else nthN X i := nth_map _ h
theorem chgN_set {ys : List Int} {X : List Nat} {i x : Nat} (hi : i < X.length) (hx : x = fng (nthN X i)) : (chgN ys X).set i x = chgN (ys ++ [(i : Int)]) X := by
 subst hx
 apply List.ext_getElem (by simp [chgN])
 intro j h1 h2
 rw [List.getElem_set]
 simp only [chgN, List.getElem_map, List.getElem_range, List.mem_append, List.mem_singleton]
 by_cases e : i = j
 ·subst e; rw [if_pos rfl, if_pos (.inr rfl)]
 ·rw [if_neg e]
  by_cases q : (j : Int) ∈ ys
  ·rw [if_pos q, if_pos (.inl q)]
  ·rw [if_neg q, if_neg (fun z => z.elim q (fun z => e (by omega)))]
structure IC (w : World) (ys : List Int) (b5 b7 B0 : Nat) (v : Value) (X : List Nat) (pre : List Int) (O : List Nat) (W : World) : Prop where
 bel : Bel w W
 big : B0 ≤ W.heap.size
 own : ∀ k ∈ O, B0 ≤ k ∧ k < W.heap.size
 fn : Blk W b5 109 [.func (.func 99) #[] #[]]
 var : Blk W b7 25 [v]
 row : Og W v (chgN pre X)
 tk : pre = ys.take pre.length
theorem not_mem_take {ys : List Int} {k : Nat} {x : Int} (hn : ys.Nodup) (h : ys[k]? = some x) : x ∉ ys.take k := fun hm => by
 obtain ⟨i, hi, e⟩ := List.getElem_of_mem hm
 rw [List.length_take] at hi
 rw [List.getElem_take] at e
 obtain ⟨hk, e2⟩ := List.getElem?_eq_some_iff.1 h
 have := (List.getElem_inj hn (h₀ := by omega) (h₁ := hk)).1 (e.trans e2.symm)
 omega
theorem yd_og {g n c B : Nat} {bs O : List Nat} {W W' : World} {Z : List Nat} (G : Gr g W W') (h : Og W (.slice (some ⟨g, 0, none⟩) n c) Z) (hb : g ∈ bs) (hO : g ∉ O) : Yd bs O B W W' :=
 ⟨G.os, G.tape, G.output, G.size, fun k hk => by
  by_cases e : k = g
  ·subst e; exact .inr ⟨.inl (og_ni h), hO, .inl hb⟩
  ·exact .inl (G.block k hk e)⟩
theorem ic_abides {w : World} {ys : List Int} {b5 b7 B0 : Nat} {v : Value} {X : List Nat} (h0 : w.heap.size ≤ B0) (h5 : b5 < B0) (h7 : b7 < B0) (hv : ∀ g, v.ownBlock = some g → g < B0) (pre : List Int) : V1.Abides fun O W => IC w ys b5 b7 B0 v X pre O W := by
 rintro O A O' C h hs h1 h2
 have sz := hs.size
 have hb := h.big
 have same : ∀ k, k < B0 → C.heap[k]? = A.heap[k]? := fun k hk => (hs.block k (by omega)).elim id (fun q => by have := (h.own k q.1).1; omega)
 exact ⟨⟨⟨hs.os.trans h.bel.out.os, hs.tape.trans h.bel.out.tape, hs.output.trans h.bel.out.output, Nat.le_trans h.bel.size sz, fun k hk => (same k (by omega)).trans (h.bel.out.block k hk)⟩⟩, by omega,
  fun k hk => (h2 k hk).elim (fun q => by have := h.own k q; omega) (fun q => by omega), blk_keep h.fn (same _ h5), blk_keep h.var (same _ h7), h.row.keep fun g hg => same g (hv g hg), h.tk⟩
theorem dChanged {A : Option Addr} {c gf : Nat} {lb : Array Value} {X : List Nat} {ys : List Int} (w : World) (hx : In w (.slice A X.length c) X) (hl : X.length ≤ 100000) (hy : ∀ i ∈ ys, 0 ≤ i ∧ i < X.length) (hys : ys.length ≤ 100000) (hnd : ys.Nodup) (hw : Walks w gf lb ys) (eg : ∀ args w, (callFunc gf args).run Tryz.prog w = .ok (.enter gf args) w) :
  Calls Tryz.prog 97 #[.slice A X.length c, .func (.func gf) #[] lb, .func (.func 99) #[] #[]] w (MakesF w (chgN ys X)) := by
 have HX := Ho.mk hx
 have HW := Ho.mk hw
 have HY := Ho.mk hy
 have HND := Ho.mk hnd
 clear hx hw hy hnd
 refine (callsIn_wide (n := 3)).1 ?_
 refine callsIn_of_wp_marks Tryz.func97 rfl trivial ?_ rfl
 simp only [Tryz.ntmps97, List.size_toArray, List.length_cons, List.length_nil, Nat.reduceAdd, Nat.reduceSub, Array.replicate_succ, Array.replicate_zero, List.push_toArray, List.append_toArray, List.nil_append, List.cons_append]
 refine wpIn_wide.2 ?_
 go_upto_region 1 with fail
 have K5 := Ho.mk (Blk.new w [.func (.func 99) #[] #[]] 109)
 have G0 := Ho.mk ((Bel.refl w).alloc (.cells #[.func (.func 99) #[] #[]] 109))
 have S0 : (w.alloc (.cells #[.func (.func 99) #[] #[]] 109)).heap.size = w.heap.size + 1 := by simp only [World.size_alloc]
 generalize w.alloc (.cells #[.func (.func 99) #[] #[]] 109) = w1 at *
 obtain ⟨b5, hb5⟩ : ∃ b5, b5 = w.heap.size := ⟨_, rfl⟩
 rw [← hb5] at K5 S0 ⊢
 have HB5 := Ho.mk hb5
 clear hb5
 have CC := Ho.mk (dCloneG w1 (HX.out.bel G0.out) hl)
 go_wp2_with fail
 (with_reducible refine CC.out.mono ?_); rintro e w2 ⟨A2, c2, rfl, ⟨g2, o2⟩, q2⟩
 have O2 := Ho.mk (fun g (h : (Value.slice A2 X.length c2).ownBlock = some g) => And.intro (show b5 + 1 ≤ g by rw [← S0]; exact o2 g h) (g2.lt h))
 have S2 := q2.size
 have B2 := (Bel.refl w2).alloc (.cells #[.slice A2 X.length c2] 25)
 have OG := Ho.mk (g2.bel B2)
 replace K5 := Ho.mk ((K5.out.bel q2).bel B2)
 replace G0 := Ho.mk ((G0.out.trans q2).trans B2)
 have K7 := Ho.mk (Blk.new w2 [.slice A2 X.length c2] 25)
 have S3 : (w2.alloc (.cells #[.slice A2 X.length c2] 25)).heap.size = w2.heap.size + 1 := by simp only [World.size_alloc]
 rw [S0] at S2
 clear CC o2 g2 q2 B2 S0
 go_upto_region 2 with fail
 generalize w2.alloc (.cells #[.slice A2 X.length c2] 25) = w3 at *
 generalize w2.heap.size = b7 at *
 have FX := Ho.mk (And.intro HB5.out S3)
 have h5 : w.heap.size ≤ b5 := by rw [HB5.out]; exact Nat.le_refl _
 have h57 : b5 < b7 := by omega
 have hw3 : w.heap.size ≤ b7 + 1 := by omega
 clear HB5
 go_wp2_with fail
 refine (wpIn_wide (n := 3)).1 ?_
 refine rangeB (α := Int) (encs := encI) (bs := (Value.slice A2 X.length c2).ownBlock.toList) (N := ys.length) (Bd := False) (Px := fun pre x _ => ys[pre.length]? = some x) (S := fun zs => zs = ys) (Sp := fun _ => True)
  (by omega) rfl eg (fun x => by rfl) (by intro k hk; simp at hk; have := (O2.out k hk).2; rw [FX.out.2]; omega) ?_
  (fun pre O W => IC w ys b5 b7 (b7 + 1) (.slice A2 X.length c2) X pre O W) (fun _ _ _ _ => False) (fun h => h.elim) (ic_abides hw3 (by omega) (by omega) (fun g hg => by have := (O2.out g hg).2; omega)) (fun _ _ _ _ _ _ h => h.elim) ?_
  (fun pre x a' W => a' = { tmps := #[.slice A X.length c, .func (.func gf) #[] lb, .func (.func 99) #[] #[], undef, undef, .pointer (some ⟨b5, 0, none⟩), .slice none 0 0, .pointer (some ⟨b7, 0, none⟩), .int .i64 x, .slice A X.length c, .slice A2 X.length c2, .func (.func gf) #[] lb, .int .i64 x, undef, undef, undef, undef, undef, undef, undef, undef, undef, undef], defers := [] } ∧ ys[pre.length]? = some x) ?_ ?_ ?_ ?_ ?_
 ·intro W hW hBW
  exact HW.out _ _ W _ (by omega) (G0.out.trans hBW) (fun k hk => by
   simp at hk
   rcases hk with hk | rfl
   ·have := (O2.out k hk).1; omega
   ·have := FX.out.2; omega)
 ·exact ⟨G0.out, by rw [FX.out.2]; exact Nat.le_refl _, by simp, K5.out, K7.out, by rw [chgN_nil]; exact OG.out, by simp⟩
 ·rintro pre x a' A r o hr h; exact h
 ·rintro l pre O x W K hI hsz hx1 hK
  simp [encI]
  gi_wp2
  exact hK _ _ (Bel.refl W) ⟨rfl, hx1⟩
 ·-- a round
  rintro l pre O x a' W hI hlen hsz ⟨rfl, hx1⟩ hO hlO
  obtain ⟨hx0, hxl⟩ := HY.out x (List.mem_of_getElem? hx1)
  have hnot := not_mem_take HND.out hx1
  rw [← hI.tk] at hnot
  have hR := hI.row
  obtain ⟨g, c', e, _⟩ := hR.form (by rw [chgN_len]; omega)
  rw [chgN_len] at e
  simp only [Value.slice.injEq] at e
  obtain ⟨rfl, _, rfl⟩ := e
  obtain ⟨r, y1, l1, c1⟩ := hR.fz.at_ (i := x.toNat) (by rw [chgN_len]; omega)
  rw [chgN_at (by omega), show ((x.toNat : Nat) : Int) = x by omega, if_neg hnot] at c1
  have OP := Ho.mk (fun w => dOppP w l1)
  have y5 := hI.fn.cell (i := 0) rfl
  have y7 := hI.var.cell (i := 0) rfl
  have zx : x = (x.toNat : Int) := by omega
  have HI := Ho.mk hI
  have C1 := Ho.mk c1
  have HX1 := Ho.mk hx1
  have HR := Ho.mk hR
  clear hI hR hx1 c1 l1 hnot
  generalize x.toNat = xn at *
  subst zx
  gi_wp2_with fail
  refine Yi.late_round 9 (S := fun w' => Bel W w') (by kernel_rfl) (by intro o ho c e; simp at ho; rcases ho with rfl | rfl | rfl | rfl | rfl | rfl | rfl | rfl | rfl | rfl <;> cases e) (by rintro ⟨_, _, h⟩; exact h) (Bel.refl _).drew (fun hHeld => ?_)
  (try dsimp only at hHeld)
  refine I7.kl (i := 0) (v := ?_) hHeld (fun w' hSw => ?_) ?_
  rotate_left
  ·(have z0 := hSw.cell y7; go_simp; try (with_reducible rfl))
  refine I7.kt (i := 1) hHeld ?_
  refine I7.kl (i := 2) (v := ?_) hHeld (fun w' hSw => ?_) ?_
  rotate_left
  ·(have z0 := hSw.cell y5; go_simp; try (with_reducible rfl))
  refine I7.kl (i := 3) (v := ?_) hHeld (fun w' hSw => ?_) ?_
  rotate_left
  ·(have z0 := hSw.cell y7; go_simp; try (with_reducible rfl))
  refine I7.kt (i := 4) hHeld ?_
  refine I7.kt (i := 5) hHeld ?_
  refine I7.kl (i := 6) (v := ?_) hHeld (fun w' hSw => ?_) ?_
  rotate_left
  ·(have z0 := hSw.cell y1; go_simp; try (with_reducible rfl))
  try simp only [Act.put, Ow.zS, Ow.zC, Ow.zD]
  refine I7.kc (i := 7) (fun K hK => ?_)
  go_simp
  go_at_call 99
  (with_reducible refine (OP.out _).mono ?_); rintro e w8 ⟨r8, rfl, l8, c8, q8⟩
  try go_wp2_with fail
  refine hK.out _ _ (Bel.trans hHeld q8) (fun hHeld => ?_)
  clear hK K
  refine I7.kt (i := 8) hHeld ?_
  try simp only [Act.put, Ow.zS, Ow.zC, Ow.zD]
  have OG8 := Ho.mk (HR.out.bel hHeld)
  have y9 := hHeld.cell y1
  have x9 := OG8.out.fz.free xn
  refine I7.ke (i := 9) (fun K hK => ?_)
  go_simp
  refine hK.out _ _ ?_
  clear hK K
  refine wpAny_done (by kernel_rfl) ?_ _
  have G8 : Gr g W (w8.setCell ⟨g, xn, none⟩ (.float .f64 r8)) := (hHeld.gr g).set xn _
  have o2 := O2.out g rfl
  have hI := HI.out
  have hf := FX.out.2
  refine ⟨yd_og G8 HR.out (by simp [Value.ownBlock]) (fun q => by have := hO g q; omega), ?_⟩
  refine ⟨G8.bel hI.bel (by omega), by have := G8.size; have := hI.big; omega, fun k hk => ⟨(hI.own k hk).1, Nat.lt_of_lt_of_le (hI.own k hk).2 G8.size⟩, G8.blk hI.fn (by omega), G8.blk hI.var (by omega), ?_, ?_⟩
  ·have := (OG8.out).setF xn l8 (x := fng (nthN X xn)) (by rw [c8, C1.out])
   rw [chgN_set (by omega) rfl] at this; exact this
  ·rw [List.length_append, List.length_singleton, List.take_add_one, ← hI.tk, HX1.out]; rfl
 ·-- all have come
  rintro zs O W hsz rfl hI hd
  have y7 := hI.var.cell (i := 0) rfl
  have HI := Ho.mk hI
  clear hI
  go_wp2_with fail
  refine leaveAny hd ?_
  go_ret
  have hI := HI.out
  have hf := FX.out.2
  refine ⟨A2, c2, by rw [chgN_len]; rfl, ?_, ?_⟩
  ·rw [chgN_len]
   exact Og.rowF (hI.row.keep fun g hg => World.putObj_heap_other (by have := (O2.out g hg).2; omega)) (fun g hg => by have := (O2.out g hg).1; omega)
  ·exact ⟨⟨hI.bel.out.os, hI.bel.out.tape, hI.bel.out.output, by have := hI.bel.size; simpa [World.putObj] using this, fun j hj => (World.putObj_heap_other (by omega)).trans (hI.bel.out.block j hj)⟩⟩
 ·rintro c pre O W hsz _ hI; exact hI.elim
theorem steps_nodup {fr by' : Int} {m : Nat} (h : by' ≠ 0) : (steps fr by' m).Nodup := by
 rw [List.nodup_iff_pairwise_ne, List.pairwise_iff_getElem]
 intro i j hi hj hij
 simp only [steps, List.length_map, List.length_range] at hi hj
 simp only [steps, List.getElem_map, List.getElem_range]
 intro e
 have e2 : (i : Int) * by' = (j : Int) * by' := by omega
 have := Int.eq_of_mul_eq_mul_right h e2
 omega
theorem chg_all (X : List Nat) : chgN (steps 0 1 X.length) X = X.map fng := by
 apply List.ext_getElem (by simp [chgN])
 intro i h1 h2
 rw [chgN_len] at h1
 simp only [chgN, List.getElem_map, List.getElem_range]
 rw [if_pos, nthN_lt h1]
 simp only [steps, List.mem_map, List.mem_range]
 exact ⟨i, h1, by omega⟩
end Kb
namespace Kd
open Ieee Go Go.RowKit Go.Proofs Go.Proofs.YtalbgklfhabnkaaGreatDoor Ow Dt Gp I0 U0 W0 S4 S6 P0 M0 M1 M3 W4 W5 V2 P4 Y3 Yh Y4 Ka Kb Y1 Z4
open Go.Proofs.YtalbgklfhabnkaaGreatDoor.Pg (In)
open Go.Proofs.YtalbgklfhabnkaaGreatDoor.S4 (infoF)
attribute [local go_sem ↓] Go.wp_at_zero Go.wp_at_succ
theorem mir_eq {X M : List Nat} {n : Nat} (hX : X.length = n) (hn : 2 < n) (lM : M.length = n - 2) (eM : ∀ j, j < n - 2 → nthN M j = nthN X (1 + j)) : X ++ revN M = mirN false X ∧ X ++ (revN M).map fng = mirN true X := by
 have rv : ∀ i, i < n - 2 → nthN (revN M) i = nthN X (n - 2 - i) := fun i hi => by
  rw [show nthN (revN M) i = nthN M (M.length - 1 - i) from nth_map _ (by omega), eM _ (by omega)]
  congr 1; omega
 constructor
 ·refine List.ext_getElem (by rw [List.length_append, revN_len, mirN_len]; omega) fun i h1 h2 => ?_
  rw [mirN_len] at h2
  simp only [mirN, List.getElem_map, List.getElem_range, Bool.false_eq_true, if_false]
  rw [List.getElem_append]
  split
  ·exact (nthN_lt (by omega)).symm
  ·have := rv (i - X.length) (by omega)
   rw [nthN_lt (by rw [revN_len]; omega)] at this
   rw [this]; congr 1; omega
 ·refine List.ext_getElem (by rw [List.length_append, List.length_map, revN_len, mirN_len]; omega) fun i h1 h2 => ?_
  rw [mirN_len] at h2
  simp only [mirN, List.getElem_map, List.getElem_range, if_true]
  rw [List.getElem_append]
  split
  ·exact (nthN_lt (by omega)).symm
  ·have := rv (i - X.length) (by omega)
   rw [nthN_lt (by rw [revN_len]; omega)] at this
   rw [List.getElem_map, this]; congr 2; omega
theorem dMirror {ad : Addr} {c n : Nat} {X : List Nat} {s : Bool} (w : World) (hx : In w (.slice (some ad) n c) X) (hX : X.length = n) (hn : 2 < n) (hl : n ≤ 1000) (hc : n ≤ c) (hc2 : c ≤ 9223372036854775807) :
  Calls Tryz.prog 255 #[.slice (some ad) n c, .bool s] w (MakesF w (mirN s X)) := by
 obtain ⟨M, hM⟩ : ∃ M, M = (X.drop 1).take (n - 2) := ⟨_, rfl⟩
 have lM : M.length = n - 2 := by rw [hM, List.length_take, List.length_drop]; omega
 have eM : ∀ j, j < n - 2 → nthN M j = nthN X (1 + j) := fun j hj => by
  rw [nthN_lt (by omega), nthN_lt (by omega)]; simp only [hM, List.getElem_take, List.getElem_drop]
 have IM := in_part (c' := c - 1) (i := 1) hx hX lM (by omega) (by omega) (by omega) eM
 obtain ⟨e1, e2⟩ := mir_eq hX hn lM eM
 obtain ⟨R, hR⟩ : ∃ R, R = revN M := ⟨_, rfl⟩
 have lR : R.length = n - 2 := by rw [hR, revN_len, lM]
 have C1 := dRev w (lM ▸ IM) (by omega)
 rw [lM, ← hR] at C1
 rw [← hR] at e1 e2
 have C1 : Ho (Calls Tryz.prog 65 #[.slice (some { block := ad.block, off := ad.off + 1 }) (n - 2) (c - 1)] w (MakesG w R)) := ⟨C1⟩
 have HX := Ho.mk hx
 have LR := Ho.mk lR
 have LX := Ho.mk hX
 have CX := Ho.mk (fun w (h : In w (.slice (some ad) n c) X) => dCloneG w h (by omega : X.length ≤ 100000))
 have hn1 : (2 : Int) < (n : Int) := by omega
 have f1 : (1 : Int) ≤ (n : Int) - 1 := by omega
 have f2 : (n : Int) - 1 ≤ (c : Int) := by omega
 have s1 : ((n : Int) - 1 - 1).toNat = n - 2 := by omega
 have s2 : ((n : Int) - 1).toNat = n - 1 := by omega
 have s3 : n - 1 - 1 = n - 2 := by omega
 have hcm : ¬ c = 1 := by omega
 have LN := Ho.mk (show n - 2 ≤ 1000 ∧ n ≤ 1000 by omega)
 clear hx hX hM lM eM IM hR lR
 cases s with
 | false =>
  have E := Ho.mk e1
  clear e1 e2
  go_enter Tryz.func255, Tryz.ntmps255
  go_wp2_with fail
  (with_reducible refine C1.out.mono ?_); rintro e w1 ⟨A1, c1, rfl, ⟨g1, o1⟩, b1⟩
  have I1 := Ho.mk (Og.inn g1 (by rw [LR.out]; have := LN.out.1; omega))
  have B1 := Ho.mk b1
  have C2 := Ho.mk (CX.out w1 (HX.out.bel b1))
  clear C1 g1 o1 b1
  go_wp2_with fail
  (with_reducible refine C2.out.mono ?_); rintro e w2 ⟨A2, c2, rfl, ⟨g2, o2⟩, b2⟩
  have G2 := Ho.mk g2
  have O2 := Ho.mk o2
  replace I1 := Ho.mk (I1.out.bel b2)
  have B2 := Ho.mk b2
  clear C2 g2 o2 b2
  go_wp2_with (at_builtin; refine wpList_appR rfl _ _ rfl G2.out rfl rfl I1.out (by rw [LX.out]; have := LN.out.2; omega) (by rw [LR.out]; have := LN.out.1; omega) ?_; intro A4 c4 w4 ho ha; rw [E.out] at ho ha ⊢; have HO4 := Ho.mk ho; have HA4 := Ho.mk ha; clear ho ha)
  go_ret
  exact ⟨A4, c4, rfl, Og.rowF HO4.out (fun g hg => by
   rcases HA4.out.own with q | q
   ·rw [q] at hg; exact Nat.le_trans B1.out.size (O2.out g hg)
   ·rw [q] at hg; cases hg; exact (B1.out.trans B2.out).size), HA4.out.bel (B1.out.trans B2.out) (fun g hg => Nat.le_trans B1.out.size (O2.out g hg))⟩
 | true =>
  obtain ⟨F, hF⟩ : ∃ F, F = R.map fng := ⟨_, rfl⟩
  rw [← hF] at e2
  have E := Ho.mk e2
  have CA := Ho.mk (show chgN (steps 0 1 R.length) R = F by rw [chg_all, hF])
  have LF := Ho.mk (show F.length ≤ 1000 by rw [hF, List.length_map, LR.out]; exact LN.out.1)
  clear e1 e2 hF
  go_enter Tryz.func255, Tryz.ntmps255
  go_wp2_with fail
  (with_reducible refine C1.out.mono ?_); rintro e w1 ⟨A1, c1, rfl, ⟨g1, o1⟩, b1⟩
  have I1 := Ho.mk (Og.inn g1 (by rw [LR.out]; have := LN.out.1; omega))
  have B1 := Ho.mk b1
  have P := Ho.mk (dPlacesW (fr := 0) (by' := 1) (en := (R.length : Int)) (m := R.length) w1 (by decide) (by omega) (by rw [LR.out]; have := LN.out.1; omega) (by decide) (fun k hk => by omega) (by omega))
  clear C1 g1 o1 b1
  go_wp2_with fail
  (with_reducible refine P.out.mono ?_); rintro e w2 ⟨lb, rfl, hW, b2⟩
  have C := dChanged w2 (I1.out.bel b2) (by rw [LR.out]; have := LN.out.1; omega) (fun i hi => by obtain ⟨k, h1, h2⟩ := steps_mem hi; omega) (by rw [steps_len, LR.out]; have := LN.out.1; omega) (steps_nodup (by decide)) hW (fun args w => rfl)
  rw [CA.out] at C
  have C := Ho.mk C
  replace B1 := Ho.mk (B1.out.trans b2)
  clear P hW b2 I1
  go_wp2_with fail
  (with_reducible refine C.out.mono ?_); rintro e w3 ⟨A3, c3, rfl, r3, b3⟩
  have I3 := Ho.mk (Pg.RowF.inn r3 (by have := LF.out; omega))
  replace B1 := Ho.mk (B1.out.trans b3)
  have C2 := Ho.mk (CX.out w3 (HX.out.bel B1.out))
  clear C r3 b3
  go_wp2_with fail
  (with_reducible refine C2.out.mono ?_); rintro e w4 ⟨A2, c2, rfl, ⟨g2, o2⟩, b2⟩
  have G2 := Ho.mk g2
  have O2 := Ho.mk o2
  replace I3 := Ho.mk (I3.out.bel b2)
  have B2 := Ho.mk b2
  clear C2 g2 o2 b2
  go_wp2_with (at_builtin; refine wpList_appR rfl _ _ rfl G2.out rfl rfl I3.out (by rw [LX.out]; have := LN.out.2; omega) (by have := LF.out; omega) ?_; intro A4 c4 w5 ho ha; rw [E.out] at ho ha ⊢; have HO4 := Ho.mk ho; have HA4 := Ho.mk ha; clear ho ha)
  go_ret
  exact ⟨A4, c4, rfl, Og.rowF HO4.out (fun g hg => by
   rcases HA4.out.own with q | q
   ·rw [q] at hg; exact Nat.le_trans B1.out.size (O2.out g hg)
   ·rw [q] at hg; cases hg; exact (B1.out.trans B2.out).size), HA4.out.bel (B1.out.trans B2.out) (fun g hg => Nat.le_trans B1.out.size (O2.out g hg))⟩
end Kd
namespace Ke
open Ieee Go Go.RowKit Go.Proofs Go.Proofs.YtalbgklfhabnkaaGreatDoor Ow Dt Gp I0 U0 W0 S4 S6 P0 M0 M1 M3 W4 W5 V2 P4 Y3 Yh Y4 Ka Kb Kd Y1 Z4
open Go.Proofs.YtalbgklfhabnkaaGreatDoor.Pg (In)
open Go.Proofs.YtalbgklfhabnkaaGreatDoor.S4 (infoF)
attribute [local go_sem ↓] Go.wp_at_zero Go.wp_at_succ
theorem dMirC {ad : Addr} {c n : Nat} {X : List Nat} (w : World) (hx : In w (.slice (some ad) n c) X) (hX : X.length = n) (hn : 2 < n) (hl : n ≤ 1000) (hc : n ≤ c) (hc2 : c ≤ 9223372036854775807) :
  Calls Tryz.prog 253 #[.agg #[], .slice (some ad) n c] w (MakesF w (mirN false X)) := by
 have B := (Bel.refl w).alloc (.cells #[] 67)
 have C := Ho.mk (dMirror (s := false) _ (hx.bel B) hX hn hl hc hc2)
 have HB := Ho.mk B
 clear hx B
 go_enter Tryz.func253, Tryz.ntmps253
 go_wp2_with fail
 (with_reducible refine C.out.mono ?_); rintro e w1 ⟨A1, c1, rfl, r, b⟩
 have R := Ho.mk r
 have HC := Ho.mk b
 clear C r b
 go_wp2
 go_ret
 exact ⟨A1, c1, rfl, R.out.mono HB.out.size, HB.out.trans HC.out⟩
theorem pad_fz {w : World} {b n : Nat} {X : List Nat} {news : List Value} (K : w.heap[b]? = some (.cells (((List.replicate (n + 2) (Value.float .f64 0)).toArray.toList.take 1 ++ (news ++ (List.replicate (n + 2) (Value.float .f64 0)).toArray.toList.drop (1 + news.length))).toArray) 22 (0, 0)))
  (hX : X.length = n) (hn : news.length = X.length) (hf : ∀ j u, news[j]? = some u → Fc u (nthN X j)) : Fz w b (padN X) := by
 refine ⟨_, ⟨K⟩, fun j hj => ?_⟩
 rw [padN_len] at hj
 have e : nthN (padN X) j = if j = 0 ∨ j = X.length + 1 then 0 else nthN X (j - 1) := nth_map _ hj
 rw [e]
 have l1 : ((List.replicate (n + 2) (Value.float .f64 0)).take 1).length = 1 := by rw [List.length_take, List.length_replicate]; omega
 rw [List.getElem?_append]
 split
 ·rename_i q
  have q : j < 1 := by rw [l1] at q; exact q
  refine ⟨.float .f64 0, ?_, 0, rfl, by decide, by rw [if_pos (by omega)]; exact cn_zero⟩
  rw [List.getElem?_take, if_pos q, List.getElem?_replicate, if_pos (by omega)]
 ·rename_i q
  have q : ¬ j < 1 := by rw [l1] at q; exact q
  simp only [l1]
  rw [List.getElem?_append]
  split
  ·rename_i q2
   rw [if_neg (by omega)]
   exact ⟨_, List.getElem?_eq_getElem q2, hf _ _ (List.getElem?_eq_getElem q2)⟩
  ·rename_i q2
   refine ⟨.float .f64 0, ?_, 0, rfl, by decide, by rw [if_pos (by omega)]; exact cn_zero⟩
   rw [List.getElem?_drop, List.getElem?_replicate, if_pos (by omega)]
theorem fz_in {w : World} {b n c : Nat} {X : List Nat} (h : Fz w b X) (hn : X.length = n) (hl : n ≤ 100000) (h1 : n ≤ c) (h2 : c ≤ 9223372036854775807) : In w (.slice (some ⟨b, 0, none⟩) n c) X := by
 subst hn
 exact ⟨_, c, rfl, h1, h2, h.fr (by omega), fun e => by cases e⟩
theorem infoS : (Tryz.prog.info? 22).map (·.size) = some 1 := by kernel_rfl
theorem wpList_pad {w : World} {ops : Array Oper} {rest : List Oper} {o : Oper} {a : Act} {Q : Exit → Act → World → Prop} (hgd : o.guard = none) (d s : Operand)
  (ho : o.op = .call { callee := .builtin .copy, args := #[d, s], argTypes := #[25, 25] })
  {g n c : Nat} {ad : Addr} {X : List Nat} (hX : X.length = n) (hx : In w (.slice (some ad) n c) X) (K : Blk w g 22 (List.replicate (n + 2) (.float .f64 0)))
  (hd : a.eval d = .slice (some ⟨g, 1, none⟩) (n + 1) (n + 1)) (hs : a.eval s = .slice (some ad) n c)
  (h : ∀ w' r, Fz w' g (padN X) → (∀ W0, Bel W0 w → W0.heap.size ≤ g → Bel W0 w') → wpList Tryz.prog ops Q rest (a.put o.dst r) w') : wpList Tryz.prog ops Q (o :: rest) a w := by
 obtain ⟨A1, cX, eX, h2, h3, h4, h5⟩ := hx.out
 cases eX
 obtain ⟨news, k1, k2, k3⟩ := Fr.news h4
 refine wpList_copy_own hgd d s 25 25 ho 22 Tryz.underlying25 infoS g 1 _ _ ad _ _ hd hs _ 22 K.out news (by rw [k1]; exact (Nat.min_eq_left (by omega)).symm) k2 (by rw [k1]; simp; omega) (fc_one k3) ?_
 exact h _ _ (pad_fz (setRow_heap w g _ _ 22 _ K.out) rfl k1 k3) (fun W0 hb hg => ⟨below_setRow hb.out hg _⟩)
theorem dMirS {ad : Addr} {c n : Nat} {X : List Nat} (w : World) (hx : In w (.slice (some ad) n c) X) (hX : X.length = n) (hn : 1 ≤ n) (hl : n ≤ 900) (hc : n ≤ c) (hc2 : c ≤ 9223372036854775807) :
  Calls Tryz.prog 256 #[.agg #[], .slice (some ad) n c] w (MakesF w (mirN true (padN X))) := by
 have B := (Bel.refl w).alloc (.cells #[] 68)
 have HX := Ho.mk (hx.bel B)
 have HB := Ho.mk B
 have LX := Ho.mk hX
 clear hx B hX
 obtain ⟨m, hm⟩ : ∃ m, m = n + 2 := ⟨_, rfl⟩
 have em : (n : Int) + 2 = (m : Int) := by omega
 have hmn : m - 1 = n + 1 := by omega
 have f1 : (1 : Int) ≤ (m : Int) := by omega
 have hm1 : ¬ m = 1 := by omega
 have HM := Ho.mk hm
 clear hm
 go_enter Tryz.func256, Tryz.ntmps256
 go_upto_region 2 with (at_make; refine wpList_mk _ rfl _ _ 25 rfl 22 (.float .f64 0) 8 Tryz.underlying25 infoF rfl m rfl rfl (by have := HM.out; omega) (by have := HM.out; omega) ?_; intro w1 hk hb hs; have HK := Ho.mk hk; have HB1 := Ho.mk hb; clear hk hb hs)
 have KX := Ho.mk (HX.out.bel HB1.out)
 rw [HM.out, World.size_alloc] at HK
 have HB2 := Ho.mk (HB.out.trans HB1.out)
 clear HX HB HB1
 go_wp2_with (refine wpList_pad (o := ⟨some 13, _, _, _, _, _⟩) rfl _ _ rfl LX.out KX.out HK.out rfl rfl ?_; intro w3 r hf hbw; have HF := Ho.mk hf; have HW := Ho.mk (hbw w HB2.out (Nat.le_succ _)); clear hf hbw)
 have C := Ho.mk (dMirror (s := true) w3 (fz_in (n := m) (c := m) HF.out (by rw [padN_len, LX.out, HM.out]) (by have := HM.out; omega) (Nat.le_refl _) (by have := HM.out; omega)) (by rw [padN_len, LX.out, HM.out]) (by have := HM.out; omega) (by have := HM.out; omega) (Nat.le_refl _) (by have := HM.out; omega))
 (with_reducible refine C.out.mono ?_); rintro e w4 ⟨A1, c1, rfl, r1, b⟩
 have R := Ho.mk r1
 have HC := Ho.mk b
 clear C r1 b
 go_wp2
 go_ret
 exact ⟨A1, c1, rfl, R.out.mono HW.out.size, HW.out.trans HC.out⟩
def Takes (w : World) (o n : Nat) (Z : List Nat) (e : Ending) (w' : World) : Prop := ∃ g c, e = .returned (.slice (some ⟨g, o, none⟩) n c) ∧ n ≤ c ∧ c ≤ 9223372036854775807 ∧ w.heap.size ≤ g ∧ Fz w' g Z ∧ Bel w w'
theorem og_fz {w : World} {B n : Nat} {v : Value} {Z : List Nat} (h : Og w v Z) (hn : Z.length = n) (h0 : 0 < n) (hB : ∀ g, v.ownBlock = some g → B ≤ g) : ∃ g c, v = .slice (some ⟨g, 0, none⟩) n c ∧ n ≤ c ∧ c ≤ 9223372036854775807 ∧ Fz w g Z ∧ B ≤ g := by
 subst hn
 exact (h.rowF hB).at_ h0
theorem dTakS {A : Option Addr} {c n : Nat} {E : List Nat} (w : World) (hx : In w (.slice A E.length c) E) (hE : E.length = 2 * (n + 1)) (hn : 1 ≤ n) (hl : n ≤ 900) :
  Calls Tryz.prog 257 #[.agg #[], .slice A E.length c, .int .i64 (n : Int)] w (Takes w 1 n (M2.oddG opsN E)) := by
 have B := (Bel.refl w).alloc (.cells #[] 68)
 have C := Ho.mk (dOdd _ (hx.bel B) (by omega))
 have HB := Ho.mk B
 obtain ⟨Z, hZ⟩ : ∃ Z, Z = M2.oddG opsN E := ⟨_, rfl⟩
 have lZ : Z.length = n + 1 := by rw [hZ, M2.oddG_len]; omega
 rw [← hZ] at C ⊢
 have LZ := Ho.mk lZ
 have f1 : (n : Int) + 1 = ((n + 1 : Nat) : Int) := by omega
 have s1 : n + 1 - 1 = n := by omega
 clear hx B hE hZ lZ
 go_enter Tryz.func257, Tryz.ntmps257
 go_wp2_with fail
 (with_reducible refine C.out.mono ?_); rintro e w1 ⟨A1, c1, rfl, ⟨g1, o1⟩, b1⟩
 obtain ⟨g, c2, e, h1, h2, hf, hg⟩ := og_fz g1 LZ.out (by omega) o1
 rw [LZ.out] at e ⊢
 cases e
 have HF := Ho.mk hf
 have HG := Ho.mk hg
 have HW := Ho.mk b1
 have f2 : (1 : Int) ≤ (n : Int) + 1 := by omega
 have f3 : (n : Int) + 1 ≤ (c1 : Int) := by omega
 have hc : ¬ c1 = 1 := by omega
 have s2 : ((n : Int) + 1 - 1).toNat = n := by omega
 clear C g1 o1 b1 hf hg f1
 go_wp2
 go_ret
 exact ⟨g, c1 - 1, rfl, by omega, by omega, Nat.le_trans HB.out.size HG.out, HF.out, HB.out.trans HW.out⟩
theorem one_in {w : World} {r x : Nat} (hr : r < 2 * sgnW) (hx : cn r = x) : In (w.alloc (.cells #[.float .f64 r] 22)) (.slice (some ⟨w.heap.size, 0, none⟩) 1 1) [x] := by
 subst hx
 refine ⟨some ⟨w.heap.size, 0, none⟩, 1, rfl, Nat.le_refl _, by decide, Fz.fr ⟨_, Blk.new w [.float .f64 r] 22, fun j hj => ?_⟩ (by simp), fun e => by cases e⟩
 obtain rfl : j = 0 := by simp at hj; omega
 exact ⟨_, rfl, r, rfl, hr, rfl⟩
theorem dTakC {ad : Addr} {c n : Nat} {E : List Nat} (w : World) (hx : In w (.slice (some ad) E.length c) E) (hE : E.length = 2 * (n - 1)) (hn : 3 ≤ n) (hl : n ≤ 900) :
  Calls Tryz.prog 254 #[.agg #[], .slice (some ad) E.length c, .int .i64 (n : Int)] w (Takes w 0 n (M2.evenG opsN E ++ [nthN E 1])) := by
 have B := (Bel.refl w).alloc (.cells #[] 67)
 have C := Ho.mk (dEven _ (hx.bel B) (by omega))
 have HB := Ho.mk B
 have HX := Ho.mk hx
 obtain ⟨Z, hZ⟩ : ∃ Z, Z = M2.evenG opsN E := ⟨_, rfl⟩
 have lZ : Z.length = n - 1 := by rw [hZ, M2.evenG_len]; omega
 rw [← hZ] at C ⊢
 have LZ := Ho.mk lZ
 have f1 : (n : Int) - 1 = ((n - 1 : Nat) : Int) := by omega
 have hE1 : (1 : Int) < (E.length : Int) := by omega
 obtain ⟨A0, c0, e0, h2, h3, h4, h5⟩ := hx.out
 cases e0
 obtain ⟨ad1, v1, e1, hc1, r1, rfl, hr1, hx1⟩ := h4.cell 1 (by omega)
 cases e1
 have R1 := Ho.mk (And.intro hr1 hx1)
 have Y1 := Ho.mk hc1
 have LE := Ho.mk hE
 clear hx B hE hZ lZ h2 h3 h4 h5 hr1 hx1 hc1
 go_enter Tryz.func254, Tryz.ntmps254
 go_wp2_with fail
 (with_reducible refine C.out.mono ?_); rintro e w1 ⟨A1, c1, rfl, ⟨g1, o1⟩, b1⟩
 obtain ⟨g, c2, e, h1, h2, hf, hg⟩ := og_fz g1 LZ.out (by omega) o1
 rw [LZ.out] at e g1 o1 ⊢
 cases e
 have G1 := Ho.mk g1
 have O1 := Ho.mk o1
 have HW := Ho.mk (HB.out.trans b1)
 have f2 : (n : Int) - 1 ≤ (c1 : Int) := by omega
 have s2 : ((n : Int) - 1).toNat = n - 1 := by omega
 have y1 := HW.out.cell Y1.out
 clear C g1 o1 b1 hf hg f1
 have y2 : w1.cell? { block := ad.block, off := ad.off + 1 } = some (.float .f64 r1) := y1
 have IO := Ho.mk (one_in (w := w1) R1.out.1 R1.out.2)
 have G2 := Ho.mk (G1.out.bel ((Bel.refl w1).alloc (.cells #[.float .f64 r1] 22)))
 have HW2 := Ho.mk (HW.out.trans ((Bel.refl w1).alloc (.cells #[.float .f64 r1] 22)))
 have lz : Z.length ≤ 100000 := by rw [LZ.out]; omega
 have eZ : (Z ++ [nthN E 1]).length = n := by rw [List.length_append, LZ.out]; simp; omega
 have LZ1 := Ho.mk lz
 have EZ := Ho.mk eZ
 clear lz eZ G1
 rw [← LZ.out] at G2
 go_wp2_with (at_builtin; refine wpList_appR rfl _ _ rfl G2.out (by show Value.slice _ _ _ = _; rw [LZ.out]) rfl IO.out LZ1.out (by simp) ?_; intro A4 c4 w4 ho ha; rw [EZ.out] at ho ha ⊢; have HO4 := Ho.mk ho; have HA4 := Ho.mk ha; clear ho ha)
 go_ret
 have own1 : ∀ g', (Value.slice (some { block := g, off := 0 }) Z.length c1).ownBlock = some g' → w.heap.size ≤ g' := fun g' hg => Nat.le_trans HB.out.size (O1.out g' hg)
 obtain ⟨g2, c5, e, k1, k2, kf, kg⟩ := og_fz (B := w.heap.size) HO4.out EZ.out (by omega) (fun g' hg => by
  rcases HA4.out.own with q | q
  ·rw [q] at hg; exact own1 g' hg
  ·rw [q] at hg; cases hg; exact HW2.out.size)
 cases e
 exact ⟨g2, c4, rfl, k1, k2, kg, kf, HA4.out.bel HW2.out own1⟩
end Ke
namespace Le
open Ieee Go Go.RowKit Go.Proofs Go.Proofs.YtalbgklfhabnkaaGreatDoor Ow Dt Gp I0 U0 W0 S4 S6 P0 M0 M1 M3 W4 W5 V2 P4 Y3 Yh Y1 P8 Pc Y5 Y6 Y7 Pk Lv
open Go.Proofs.YtalbgklfhabnkaaGreatDoor.V1 (NI St ni_same ni_loop St.refl St.of_bel blk_keep ni_blk put_st)
open Go.Proofs.YtalbgklfhabnkaaGreatDoor.C6 (leaveAny)
open Go.Proofs.YtalbgklfhabnkaaGreatDoor.Pg (In)
attribute [local go_sem ↓] Go.wp_at_zero Go.wp_at_succ
section
variable {A B : Option Addr} {n m c c' : Nat} {X Y : List Nat} {w : World}
theorem pRfft (T : Tab w) (hx : In w (.slice A n c) X) (hl : X.length ≤ 128) {Z : List Nat} {z : Int} (h1 : Z = rfR X) (h2 : z = errF X) :
  Calls Tryz.prog 84 #[.slice A n c] w (MakesRE w Z z) := by
 obtain rfl := In.len hx
 rw [h1, h2]; exact dRfft w T hx hl
theorem pSameRow (hx : In w (.slice A n c) X) (hy : In w (.slice B m c') Y) (l1 : X.length ≤ 100000) (l2 : Y.length ≤ 100000) {z : Bool} (hz : z = decide (X = Y)) :
  Calls Tryz.prog 20 #[.slice A n c, .slice B m c'] w (fun e w' => e = .returned (.bool z) ∧ Bel w w') := by
 rw [hz]; exact dSameRowI w hx hy l1 l2
end
theorem h1 : rfR [4607182418800017408, 4611686018427387904, 4613937818241073152, 4616189618054758400] = [4621819117588971520, 13835058055282163712, 13835058055282163712, 4611686018427387904] ∧ errF [4607182418800017408, 4611686018427387904, 4613937818241073152, 4616189618054758400] = 0 := by decide +kernel
theorem h2 : rfR [4607182418800017408, 4611686018427387904, 4613937818241073152] = [] ∧ errF [4607182418800017408, 4611686018427387904, 4613937818241073152] = 2 := by decide +kernel
theorem h3 : binsRe [4621819117588971520, 13835058055282163712, 13835058055282163712, 4611686018427387904] = [4621819117588971520, 13835058055282163712, 13835058055282163712] ∧ binsIm [4621819117588971520, 13835058055282163712, 13835058055282163712, 4611686018427387904] = [0, 4611686018427387904, 0] ∧ okR 4 = true := by decide +kernel
end Le
namespace Kf
open Ieee Go Go.RowKit Go.Proofs Go.Proofs.YtalbgklfhabnkaaGreatDoor Ow Dt Dp Gp F1 I0 U0 W0 S3 S4 S6 P0 P3 P4 M0 M1 M3 W4 W5 V2 Y3 Yh Y1 Y4 Y6 Ka Kb Kc Kd Ke Le Z4
open Go.Proofs.YtalbgklfhabnkaaGreatDoor.Pg (In)
attribute [local go_sem ↓] Go.wp_at_zero Go.wp_at_succ
def pS (s : Bool) (n : Nat) : Nat := if s then Nat.log2 (n + 1) else Nat.log2 (n - 1)
def d1R (s : Bool) (X : List Nat) : List Nat := if okS s X.length then (if s then dst1N (pS s X.length) X else dct1N (pS s X.length) X) else []
def d1E (s : Bool) (X : List Nat) : Int := if okS s X.length then 0 else 2
structure Part (w w' : World) (o : Nat) (A : Option Addr) (Z : List Nat) : Prop where
 out : Z.length = 0 ∨ ∃ g Y, A = some ⟨g, o, none⟩ ∧ Fz w' g Y ∧ w.heap.size ≤ g ∧ Y.length = o + Z.length ∧ ∀ k, k < Z.length → nthN Y (o + k) = nthN Z k
def MakesPE (w : World) (o : Nat) (Z : List Nat) (z : Int) (e : Ending) (w' : World) : Prop := ∃ A c, e = .returned (.tuple #[.slice A Z.length c, .int .i64 z]) ∧ In w' (.slice A Z.length c) Z ∧ Part w w' o A Z ∧ Bel w w'
theorem okS_c {n : Nat} (h : okS false n = true) : n = 2 ^ pS false n + 1 ∧ 1 ≤ pS false n ∧ n ≤ 1025 := by
 obtain ⟨h1, h2, h3⟩ := okR_pow (show okR (n - 1) = true from h)
 have := Nat.two_pow_pos (Nat.log2 (n - 1))
 simp only [pS, Bool.false_eq_true, if_false]
 refine ⟨?_, h2, by omega⟩
 by_cases h0 : n = 0
 ·subst h0; exact absurd h (by decide)
 ·omega
theorem okS_s {n : Nat} (h : okS true n = true) : n + 1 = 2 ^ pS true n ∧ 1 ≤ pS true n ∧ n ≤ 1023 := by
 obtain ⟨h1, h2, h3⟩ := okR_pow (show okR (n + 1) = true from h)
 exact ⟨h1, h2, by omega⟩
theorem okR_two {p : Nat} (h : 1 ≤ p) (h2 : p ≤ 10) : okR (2 ^ p) = true := by
 unfold okR logI
 have := Nat.two_pow_pos p
 have : 2 ^ p ≤ 2 ^ 10 := Nat.pow_le_pow_right (by omega) h2
 rw [Nat.log2_two_pow, if_pos ⟨by omega, rfl, by omega⟩]
 exact decide_eq_true (by omega)
def upM (h o i : Nat) (Z : List Nat) : List Nat := (List.range Z.length).map fun k => if o ≤ k ∧ k < o + i then fmul (nthN Z k) h else nthN Z k
theorem upM_len (h o i : Nat) (Z : List Nat) : (upM h o i Z).length = Z.length := by simp [upM]
theorem upM_at {h o i k : Nat} {Z : List Nat} (hk : k < Z.length) : nthN (upM h o i Z) k = if o ≤ k ∧ k < o + i then fmul (nthN Z k) h else nthN Z k := nth_map _ hk
theorem upM_zero (h o : Nat) (Z : List Nat) : upM h o 0 Z = Z := by
 refine List.ext_getElem (by simp [upM]) fun i h1 h2 => ?_
 simp only [upM, List.getElem_map, List.getElem_range]
 rw [if_neg (by omega)]; exact nthN_lt h2
theorem upM_set {h o i : Nat} {Z : List Nat} (hi : o + i < Z.length) : (upM h o i Z).set (o + i) (fmul (nthN Z (o + i)) h) = upM h o (i + 1) Z := by
 refine List.ext_getElem (by simp [upM]) fun k h1 h2 => ?_
 rw [upM_len] at h2
 rw [List.getElem_set]
 simp only [upM, List.getElem_map, List.getElem_range]
 by_cases e : o + i = k
 ·subst e; rw [if_pos rfl, if_pos ⟨by omega, by omega⟩]
 ·rw [if_neg e]
  by_cases q : o ≤ k ∧ k < o + i
  ·rw [if_pos q, if_pos ⟨q.1, by omega⟩]
  ·rw [if_neg q, if_neg (by omega)]
theorem nthN_app' (a b : List Nat) (i : Nat) : nthN (a ++ b) i = if i < a.length then nthN a i else nthN b (i - a.length) := nthG_app opsN a b i
theorem half_ok : (4602678819172646912 : Nat) < 2 * sgnW ∧ cn 4602678819172646912 = halfW ∧ (13826050856027422720 : Nat) < 2 * sgnW ∧ cn 13826050856027422720 = fng halfW := by decide +kernel
theorem dMade0c {A : Option Addr} {c n : Nat} (w : World) (T : Tab w) (hn : n ≤ 129) (hok : okS false n = false) :
  Calls Tryz.prog 49 #[.iface 67 (.agg #[]), .slice A n c] w (fun e w' => e = .returned (.tuple #[.slice none 0 0, .int .i64 2]) ∧ Bel w w') := by
 have F := Ho.mk (dFitsE (s := false) w hn T)
 rw [hok] at F
 simp only [kS, Bool.false_eq_true, if_false, if_true] at F
 clear T hok
 have ha : ∀ w, (Instr.typeAssert (.iface 67 (.agg #[])) 113 67 true).run Tryz.prog w = .ok (.tuple #[.agg #[], .bool true]) w := fun _ => by kernel_rfl
 go_enter Tryz.func49, Tryz.ntmps49
 go_wp2_with fail
 (with_reducible refine F.out.mono ?_); rintro e w1 ⟨rfl, b⟩
 go_wp2
 go_ret2
 exact ⟨rfl, b⟩
theorem dMade1c {ad : Addr} {c n : Nat} {X : List Nat} (w : World) (T : Tab w) (hx : In w (.slice (some ad) n c) X) (hX : X.length = n) (hn : n ≤ 64) (hok : okS false n = true) (hc : n ≤ c) (hc2 : c ≤ 9223372036854775807) :
  Calls Tryz.prog 49 #[.iface 67 (.agg #[]), .slice (some ad) n c] w (MakesPE w 0 (d1R false X) 0) := by
 obtain ⟨ok1, ok2, ok3⟩ := okS_c hok
 have F := dFitsE (s := false) w (show n ≤ 129 by omega) T
 rw [hok] at F
 simp only [kS, Bool.false_eq_true, if_false, if_true] at F
 replace F := Ho.mk F
 obtain ⟨p, hp⟩ : ∃ p, p = pS false n := ⟨_, rfl⟩
 rw [← hp] at ok1 ok2
 have p6 : p ≤ 6 := by
  rcases Nat.lt_or_ge p 7 with q | q
  ·omega
  ·have := Nat.pow_le_pow_right (n := 2) (by omega) q
   omega
 have h64 : 2 ^ p ≤ 64 := Nat.pow_le_pow_right (n := 2) (by omega) p6
 have hq2 : 2 ≤ 2 ^ p := by rw [two_half ok2]; have := Nat.two_pow_pos (p - 1); omega
 have hp1 : 2 ^ (p + 1) = 2 * 2 ^ p := two_pow p
 obtain ⟨M, hM⟩ : ∃ M, M = mirN false X := ⟨_, rfl⟩
 have lM : M.length = 2 ^ (p + 1) := by rw [hM, mirN_len]; omega
 have okM : okR M.length = true := by rw [lM]; exact okR_two (by omega) (by omega)
 obtain ⟨R, hR⟩ : ∃ R, R = rfR M := ⟨_, rfl⟩
 have eR : R = rfftN (p + 1) M := by rw [hR]; unfold rfR; rw [okM, lM, Nat.log2_two_pow]; rfl
 have lR : R.length = 2 ^ (p + 1) := by rw [eR, rfftN_len]
 have eF : 0 = errF M := by unfold errF; rw [okM]; rfl
 obtain ⟨Z, hZ⟩ : ∃ Z, Z = M2.evenG opsN R ++ [nthN R 1] := ⟨_, rfl⟩
 obtain ⟨D, hD⟩ : ∃ D, D = d1R false X := ⟨_, rfl⟩
 have lD : D.length = n := by rw [hD]; unfold d1R; rw [hX, hok, ← hp]; simp [dct1N_len]; omega
 have lZ : Z.length = n + 0 := by rw [hZ, List.length_append, M2.evenG_len, lR]; simp; omega
 have dZ : ∀ j, j < n → fmul (nthN Z (0 + j)) halfW = nthN D j := fun j hj => by
  rw [hD]; unfold d1R; rw [hX, hok, ← hp]
  simp only [if_true, Bool.false_eq_true, if_false]
  rw [show nthN (dct1N p X) j = fmul (nthN (rfftN (p + 1) (mirN false X)) (if j < 2 ^ p then 2 * j else 1)) halfW from nth_map _ (by omega), ← hM, ← eR, hZ, nthN_app', M2.evenG_len, lR, Nat.zero_add]
  by_cases q : j < 2 ^ p
  ·rw [if_pos (by omega), if_pos q]; congr 1; exact nth_map _ (by rw [lR]; omega)
  ·rw [if_neg (by omega), if_neg q]; congr 1; obtain rfl : j = 2 ^ p := by omega
   rw [show 2 ^ p - (2 ^ (p + 1) + 1) / 2 = 0 by omega]; rfl
 have CM := Ho.mk (fun w' (b : Bel w w') => dMirC w' (hx.bel b) hX (by omega) (by omega) hc hc2)
 rw [← hM] at CM
 have LM := Ho.mk (And.intro lM lR)
 have L128 := Ho.mk (show M.length ≤ 128 ∧ 0 < R.length by rw [lM, lR, hp1]; omega)
 have TT := Ho.mk T
 have ER := Ho.mk (And.intro hR eF)
 have LD := Ho.mk lD
 have LZ := Ho.mk lZ
 have DZ := Ho.mk dZ
 have CT := Ho.mk (fun w' {ad : Addr} {c : Nat} (h : In w' (.slice (some ad) R.length c) R) => dTakC (n := n) w' h (by omega) (by omega) (by omega))
 rw [← hZ] at CT
 rw [← hD]
 have hn2 : 0 < n := by omega
 clear T hok ok1 ok2 ok3 hp p6 h64 hq2 hp1 lM okM eR lR eF lD lZ dZ hx hX hM hR hZ hD hc hc2
 have ha : ∀ w, (Instr.typeAssert (.iface 67 (.agg #[])) 113 67 true).run Tryz.prog w = .ok (.tuple #[.agg #[], .bool true]) w := fun _ => by kernel_rfl
 have hi1 : ∀ w, (method 405 67 (.agg #[]) "overtone/dctone.mirrored").run Tryz.prog w = .ok (253, .agg #[]) w := fun _ => by kernel_rfl
 have hi2 : ∀ w, (method 405 67 (.agg #[]) "overtone/dctone.taken").run Tryz.prog w = .ok (254, .agg #[]) w := fun _ => by kernel_rfl
 go_enter Tryz.func49, Tryz.ntmps49
 go_wp2_with fail
 (with_reducible refine F.out.mono ?_); rintro e w1 ⟨rfl, b1⟩
 have B1 := Ho.mk b1
 clear F b1
 go_wp2_with fail
 (with_reducible refine (CM.out _ B1.out).mono ?_); rintro e w2 ⟨A1, c1, rfl, r1, b2⟩
 have I1 := Ho.mk (Pg.RowF.inn r1 (by have := L128.out.1; omega))
 have B2 := Ho.mk (B1.out.trans b2)
 clear CM r1 b2 B1
 go_wp2_with fail
 (with_reducible refine (pRfft (TT.out.bel B2.out) I1.out L128.out.1 ER.out.1 ER.out.2).mono ?_); rintro e w3 ⟨A2, c2, rfl, r2, b3⟩
 obtain ⟨g2, c3, e, k1, k2, k3, k4⟩ := r2.at_ L128.out.2
 cases e
 have I2 := Ho.mk (Pg.RowF.inn r2 (by have := LM.out; have := L128.out.1; omega))
 have B3 := Ho.mk (B2.out.trans b3)
 clear I1 r2 k1 k2 k3 k4 b3 B2
 go_wp2_with fail
 (with_reducible refine (CT.out _ I2.out).mono ?_); rintro e w4 ⟨g, c4, rfl, h1, h2, hg, hf, b4⟩
 have H : Ho (Hp w w4 [.row g Z]) := ⟨⟨B3.out.trans b4, fun x hx => by simp at hx; subst hx; exact Nat.le_trans B3.out.size hg, by simp, fun x hx => by simp at hx; subst hx; exact hf⟩⟩
 clear CT I2 B3 hg hf b4 hi1 hi2
 go_wp2_with fail
 obtain ⟨wx, rfl⟩ : ∃ wx : World, wx = w4 := ⟨_, rfl⟩
 go_loopw [39] (fun v wr => ∃ (i : Nat), i ≤ n ∧ v = .int .i64 i ∧ Ho (Hp w wr [.row g (upM halfW 0 i Z)])) (fun v _ => n - (intOf v).toNat)
 case atStart => exact ⟨0, Nat.zero_le _, rfl, by rw [upM_zero]; exact H⟩
 case round =>
  clear H
  obtain ⟨i, hi, rfl, H⟩ := hrel
  rcases Nat.lt_or_ge i n with hlt | hge
  ·obtain ⟨r, y0, l0, c0⟩ := (H.out.row 0 rfl).at_ (i := i) (by rw [upM_len, LZ.out]; omega)
   have C0 := Ho.mk (And.intro l0 c0)
   clear l0 c0
   go_wp2_with fail
   (with_reducible refine (dOMul wr C0.out.1 half_ok.1).mono ?_); rintro e w5 ⟨q, rfl, l5, c5, b5⟩
   replace H := Ho.mk (H.out.grow b5)
   have C5 := Ho.mk (And.intro l5 (show cn q = fmul (nthN Z (0 + i)) halfW by rw [c5, C0.out.2, half_ok.2.1, upM_at (by rw [LZ.out]; omega), if_neg (by omega), Nat.zero_add]))
   clear y0 C0 l5 c5 b5
   obtain ⟨_, y0, _, _⟩ := (H.out.row 0 rfl).at_ (i := i) (by rw [upM_len, LZ.out]; omega)
   have x0 := (H.out.row 0 rfl).free (i)
   go_wp2_with fail
   clear y0 x0
   replace H := Ho.mk (H.out.setF 0 rfl (i) C5.out.1 C5.out.2)
   simp only [List.set_cons_zero, List.set_cons_succ] at H
   generalize World.setCell w5 ⟨g, i, none⟩ (.float .f64 q) = w6 at *
   have eU := upM_set (h := halfW) (o := 0) (i := i) (Z := Z) (by rw [LZ.out]; omega)
   rw [Nat.zero_add] at eU
   rw [Nat.zero_add, eU] at H
   clear eU
   go_roundw
   case rel => exact ⟨i + 1, by omega, by simp, H⟩
   case measure => simp [intOf]; omega
  ·obtain rfl : i = n := by omega
   go_wp2
   go_ret2
   have P : Part w wr 0 (some ⟨g, 0, none⟩) D := ⟨.inr ⟨g, _, rfl, H.out.row 0 rfl, H.out.ge _ (List.mem_cons_self ..), by rw [upM_len, LZ.out, LD.out]; omega, fun j hj => by
    rw [LD.out] at hj
    rw [upM_at (by rw [LZ.out]; omega), if_pos (by omega), DZ.out j hj]⟩⟩
   refine ⟨_, c4, by rw [LD.out]; rfl, ?_, P, H.out.bel⟩
   have I := fz_in (n := i + 0) (c := i + 0) (H.out.row 0 rfl) (by rw [upM_len, LZ.out]) (by omega) (Nat.le_refl _) (by omega)
   have J := in_part (c' := c4) (i := 0) (Y := D) I (by rw [upM_len, LZ.out]) LD.out (by omega) h1 h2 (fun j hj => by rw [upM_at (by rw [LZ.out]; omega), if_pos (by omega), DZ.out j hj])
   rw [LD.out]
   exact J
theorem dDct1 {A : Option Addr} {c n : Nat} {X : List Nat} {w : World} (T : Tab w) (hx : In w (.slice A n c) X) (hl : X.length ≤ 64) {Z : List Nat} {z : Int} (h1 : Z = d1R false X) (h2 : z = d1E false X) :
  Calls Tryz.prog 23 #[.slice A n c] w (MakesPE w 0 Z z) := by
 obtain rfl : X.length = n := by obtain ⟨A1, c1, e1, _⟩ := hx.out; cases e1; rfl
 obtain ⟨A1, c1, e1, k1, k2, k3, k4⟩ := hx.out
 cases e1
 have CM : Ho (Calls Tryz.prog 49 #[.iface 67 (.agg #[]), .slice A X.length c] w (MakesPE w 0 Z z)) := by
  cases hok : okS false X.length with
  | false =>
   have e1 : Z = [] := by rw [h1]; unfold d1R; rw [hok]; rfl
   have e2 : z = 2 := by rw [h2]; unfold d1E; rw [hok]; rfl
   rw [e1, e2]
   refine ⟨(dMade0c w T (by omega) hok).mono ?_⟩
   rintro e w' ⟨rfl, b⟩
   exact ⟨none, 0, rfl, ⟨none, 0, rfl, Nat.le_refl _, by decide, Fr.nil _ _, fun _ => rfl⟩, ⟨.inl rfl⟩, b⟩
  | true =>
   have e2 : z = 0 := by rw [h2]; unfold d1E; rw [hok]; rfl
   rw [h1, e2]
   have h0 : 0 < X.length := by
    have := okS_c hok
    have := Nat.two_pow_pos (pS false X.length)
    by_cases q : X.length = 0
    ·rw [q] at hok; exact absurd hok (by decide)
    ·omega
   cases A with
   | none => have := k4 rfl; omega
   | some ad => exact ⟨dMade1c w T hx rfl hl hok k1 k2⟩
 clear T hx hl h1 h2 k1 k2 k3 k4
 go_enter Tryz.func23, Tryz.ntmps23
 go_wp2_with fail
 (with_reducible refine CM.out.mono ?_); rintro e w1 ⟨A2, c2, rfl, i, p, b⟩
 have I := Ho.mk (And.intro i (And.intro p b))
 clear CM i p b
 go_wp2
 go_ret2
 exact ⟨A2, c2, rfl, I.out.1, I.out.2.1, I.out.2.2⟩
theorem dMade0s {A : Option Addr} {c n : Nat} (w : World) (T : Tab w) (hn : n ≤ 129) (hok : okS true n = false) :
  Calls Tryz.prog 49 #[.iface 68 (.agg #[]), .slice A n c] w (fun e w' => e = .returned (.tuple #[.slice none 0 0, .int .i64 2]) ∧ Bel w w') := by
 have F := Ho.mk (dFitsE (s := true) w hn T)
 rw [hok] at F
 simp only [kS, Bool.false_eq_true, if_false, if_true] at F
 clear T hok
 have ha : ∀ w, (Instr.typeAssert (.iface 68 (.agg #[])) 113 67 true).run Tryz.prog w = .ok (.tuple #[.agg #[], .bool false]) w := fun _ => by kernel_rfl
 have hb : ∀ w, (Instr.typeAssert (.iface 68 (.agg #[])) 113 68 true).run Tryz.prog w = .ok (.tuple #[.agg #[], .bool true]) w := fun _ => by kernel_rfl
 go_enter Tryz.func49, Tryz.ntmps49
 go_wp2_with fail
 (with_reducible refine F.out.mono ?_); rintro e w1 ⟨rfl, b⟩
 go_wp2
 go_ret2
 exact ⟨rfl, b⟩
theorem dMade1s {ad : Addr} {c n : Nat} {X : List Nat} (w : World) (T : Tab w) (hx : In w (.slice (some ad) n c) X) (hX : X.length = n) (hn : n ≤ 64) (hok : okS true n = true) (hc : n ≤ c) (hc2 : c ≤ 9223372036854775807) :
  Calls Tryz.prog 49 #[.iface 68 (.agg #[]), .slice (some ad) n c] w (MakesPE w 1 (d1R true X) 0) := by
 obtain ⟨ok1, ok2, ok3⟩ := okS_s hok
 have F := dFitsE (s := true) w (show n ≤ 129 by omega) T
 rw [hok] at F
 simp only [kS, Bool.false_eq_true, if_false, if_true] at F
 replace F := Ho.mk F
 obtain ⟨p, hp⟩ : ∃ p, p = pS true n := ⟨_, rfl⟩
 rw [← hp] at ok1 ok2
 have p6 : p ≤ 6 := by
  rcases Nat.lt_or_ge p 7 with q | q
  ·omega
  ·have := Nat.pow_le_pow_right (n := 2) (by omega) q
   omega
 have h64 : 2 ^ p ≤ 64 := Nat.pow_le_pow_right (n := 2) (by omega) p6
 have hq2 : 2 ≤ 2 ^ p := by rw [two_half ok2]; have := Nat.two_pow_pos (p - 1); omega
 have hp1 : 2 ^ (p + 1) = 2 * 2 ^ p := two_pow p
 obtain ⟨M, hM⟩ : ∃ M, M = mirN true (padN X) := ⟨_, rfl⟩
 have lM : M.length = 2 ^ (p + 1) := by rw [hM, mirN_len, padN_len]; omega
 have okM : okR M.length = true := by rw [lM]; exact okR_two (by omega) (by omega)
 obtain ⟨R, hR⟩ : ∃ R, R = rfR M := ⟨_, rfl⟩
 have eR : R = rfftN (p + 1) M := by rw [hR]; unfold rfR; rw [okM, lM, Nat.log2_two_pow]; rfl
 have lR : R.length = 2 ^ (p + 1) := by rw [eR, rfftN_len]
 have eF : 0 = errF M := by unfold errF; rw [okM]; rfl
 obtain ⟨Z, hZ⟩ : ∃ Z, Z = M2.oddG opsN R := ⟨_, rfl⟩
 obtain ⟨D, hD⟩ : ∃ D, D = d1R true X := ⟨_, rfl⟩
 have lD : D.length = n := by rw [hD]; unfold d1R; rw [hX, hok, ← hp]; simp [dst1N_len]; omega
 have lZ : Z.length = n + 1 := by rw [hZ, M2.oddG_len, lR]; omega
 have dZ : ∀ j, j < n → fmul (nthN Z (1 + j)) (fng halfW) = nthN D j := fun j hj => by
  rw [hD]; unfold d1R; rw [hX, hok, ← hp]
  simp only [if_true]
  rw [show nthN (dst1N p X) j = fmul (nthN (rfftN (p + 1) (mirN true (padN X))) (2 * (j + 1) + 1)) (fng halfW) from nth_map _ (by omega), ← hM, ← eR, hZ]
  congr 1
  rw [show nthN (M2.oddG opsN R) (1 + j) = nthN R (2 * (1 + j) + 1) from nth_map _ (by rw [lR]; omega), Nat.add_comm 1 j]
 have CM := Ho.mk (fun w' (b : Bel w w') => dMirS w' (hx.bel b) hX (by omega) (by omega) hc hc2)
 rw [← hM] at CM
 have LM := Ho.mk (And.intro lM lR)
 have L128 := Ho.mk (show M.length ≤ 128 ∧ 0 < R.length by rw [lM, lR, hp1]; omega)
 have TT := Ho.mk T
 have ER := Ho.mk (And.intro hR eF)
 have LD := Ho.mk lD
 have LZ := Ho.mk lZ
 have DZ := Ho.mk dZ
 have CT := Ho.mk (fun w' {ad : Addr} {c : Nat} (h : In w' (.slice (some ad) R.length c) R) => dTakS (n := n) w' h (by omega) (by omega) (by omega))
 rw [← hZ] at CT
 rw [← hD]
 have hn2 : 0 < n := by omega
 clear T hok ok1 ok2 ok3 hp p6 h64 hq2 hp1 lM okM eR lR eF lD lZ dZ hx hX hM hR hZ hD hc hc2
 have ha : ∀ w, (Instr.typeAssert (.iface 68 (.agg #[])) 113 67 true).run Tryz.prog w = .ok (.tuple #[.agg #[], .bool false]) w := fun _ => by kernel_rfl
 have hb : ∀ w, (Instr.typeAssert (.iface 68 (.agg #[])) 113 68 true).run Tryz.prog w = .ok (.tuple #[.agg #[], .bool true]) w := fun _ => by kernel_rfl
 have hi1 : ∀ w, (method 405 68 (.agg #[]) "overtone/dctone.mirrored").run Tryz.prog w = .ok (256, .agg #[]) w := fun _ => by kernel_rfl
 have hi2 : ∀ w, (method 405 68 (.agg #[]) "overtone/dctone.taken").run Tryz.prog w = .ok (257, .agg #[]) w := fun _ => by kernel_rfl
 go_enter Tryz.func49, Tryz.ntmps49
 go_wp2_with fail
 (with_reducible refine F.out.mono ?_); rintro e w1 ⟨rfl, b1⟩
 have B1 := Ho.mk b1
 clear F b1
 go_wp2_with fail
 (with_reducible refine (CM.out _ B1.out).mono ?_); rintro e w2 ⟨A1, c1, rfl, r1, b2⟩
 have I1 := Ho.mk (Pg.RowF.inn r1 (by have := L128.out.1; omega))
 have B2 := Ho.mk (B1.out.trans b2)
 clear CM r1 b2 B1
 go_wp2_with fail
 (with_reducible refine (pRfft (TT.out.bel B2.out) I1.out L128.out.1 ER.out.1 ER.out.2).mono ?_); rintro e w3 ⟨A2, c2, rfl, r2, b3⟩
 obtain ⟨g2, c3, e, k1, k2, k3, k4⟩ := r2.at_ L128.out.2
 cases e
 have I2 := Ho.mk (Pg.RowF.inn r2 (by have := LM.out; have := L128.out.1; omega))
 have B3 := Ho.mk (B2.out.trans b3)
 clear I1 r2 k1 k2 k3 k4 b3 B2
 go_wp2_with fail
 (with_reducible refine (CT.out _ I2.out).mono ?_); rintro e w4 ⟨g, c4, rfl, h1, h2, hg, hf, b4⟩
 have H : Ho (Hp w w4 [.row g Z]) := ⟨⟨B3.out.trans b4, fun x hx => by simp at hx; subst hx; exact Nat.le_trans B3.out.size hg, by simp, fun x hx => by simp at hx; subst hx; exact hf⟩⟩
 clear CT I2 B3 hg hf b4 hi1 hi2
 go_wp2_with fail
 obtain ⟨wx, rfl⟩ : ∃ wx : World, wx = w4 := ⟨_, rfl⟩
 go_loopw [39] (fun v wr => ∃ (i : Nat), i ≤ n ∧ v = .int .i64 i ∧ Ho (Hp w wr [.row g (upM (fng halfW) 1 i Z)])) (fun v _ => n - (intOf v).toNat)
 case atStart => exact ⟨0, Nat.zero_le _, rfl, by rw [upM_zero]; exact H⟩
 case round =>
  clear H
  obtain ⟨i, hi, rfl, H⟩ := hrel
  rcases Nat.lt_or_ge i n with hlt | hge
  ·obtain ⟨r, y0, l0, c0⟩ := (H.out.row 0 rfl).at_ (i := 1 + i) (by rw [upM_len, LZ.out]; omega)
   have C0 := Ho.mk (And.intro l0 c0)
   clear l0 c0
   go_wp2_with fail
   (with_reducible refine (dOMul wr C0.out.1 half_ok.2.2.1).mono ?_); rintro e w5 ⟨q, rfl, l5, c5, b5⟩
   replace H := Ho.mk (H.out.grow b5)
   have C5 := Ho.mk (And.intro l5 (show cn q = fmul (nthN Z (1 + i)) (fng halfW) by rw [c5, C0.out.2, half_ok.2.2.2, upM_at (by rw [LZ.out]; omega), if_neg (by omega)]))
   clear y0 C0 l5 c5 b5
   obtain ⟨_, y0, _, _⟩ := (H.out.row 0 rfl).at_ (i := 1 + i) (by rw [upM_len, LZ.out]; omega)
   have x0 := (H.out.row 0 rfl).free (1 + i)
   go_wp2_with fail
   clear y0 x0
   replace H := Ho.mk (H.out.setF 0 rfl (1 + i) C5.out.1 C5.out.2)
   simp only [List.set_cons_zero, List.set_cons_succ] at H
   generalize World.setCell w5 ⟨g, 1 + i, none⟩ (.float .f64 q) = w6 at *
   have eU := upM_set (h := (fng halfW)) (o := 1) (i := i) (Z := Z) (by rw [LZ.out]; omega)
   skip
   rw [eU] at H
   clear eU
   go_roundw
   case rel => exact ⟨i + 1, by omega, by simp, H⟩
   case measure => simp [intOf]; omega
  ·obtain rfl : i = n := by omega
   go_wp2
   go_ret2
   have P : Part w wr 1 (some ⟨g, 1, none⟩) D := ⟨.inr ⟨g, _, rfl, H.out.row 0 rfl, H.out.ge _ (List.mem_cons_self ..), by rw [upM_len, LZ.out, LD.out]; omega, fun j hj => by
    rw [LD.out] at hj
    rw [upM_at (by rw [LZ.out]; omega), if_pos (by omega), DZ.out j hj]⟩⟩
   refine ⟨_, c4, by rw [LD.out]; rfl, ?_, P, H.out.bel⟩
   have I := fz_in (n := i + 1) (c := i + 1) (H.out.row 0 rfl) (by rw [upM_len, LZ.out]) (by omega) (Nat.le_refl _) (by omega)
   have J := in_part (c' := c4) (i := 1) (Y := D) I (by rw [upM_len, LZ.out]) LD.out (by omega) h1 h2 (fun j hj => by rw [upM_at (by rw [LZ.out]; omega), if_pos (by omega), DZ.out j hj])
   rw [LD.out]
   exact J
theorem dDst1 {A : Option Addr} {c n : Nat} {X : List Nat} {w : World} (T : Tab w) (hx : In w (.slice A n c) X) (hl : X.length ≤ 64) {Z : List Nat} {z : Int} (h1 : Z = d1R true X) (h2 : z = d1E true X) :
  Calls Tryz.prog 24 #[.slice A n c] w (MakesPE w 1 Z z) := by
 obtain rfl : X.length = n := by obtain ⟨A1, c1, e1, _⟩ := hx.out; cases e1; rfl
 obtain ⟨A1, c1, e1, k1, k2, k3, k4⟩ := hx.out
 cases e1
 have CM : Ho (Calls Tryz.prog 49 #[.iface 68 (.agg #[]), .slice A X.length c] w (MakesPE w 1 Z z)) := by
  cases hok : okS true X.length with
  | false =>
   have e1 : Z = [] := by rw [h1]; unfold d1R; rw [hok]; rfl
   have e2 : z = 2 := by rw [h2]; unfold d1E; rw [hok]; rfl
   rw [e1, e2]
   refine ⟨(dMade0s w T (by omega) hok).mono ?_⟩
   rintro e w' ⟨rfl, b⟩
   exact ⟨none, 0, rfl, ⟨none, 0, rfl, Nat.le_refl _, by decide, Fr.nil _ _, fun _ => rfl⟩, ⟨.inl rfl⟩, b⟩
  | true =>
   have e2 : z = 0 := by rw [h2]; unfold d1E; rw [hok]; rfl
   rw [h1, e2]
   have h0 : 0 < X.length := by
    have := okS_s hok
    have := Nat.two_pow_pos (pS true X.length)
    by_cases q : X.length = 0
    ·rw [q] at hok; exact absurd hok (by decide)
    ·omega
   cases A with
   | none => have := k4 rfl; omega
   | some ad => exact ⟨dMade1s w T hx rfl hl hok k1 k2⟩
 clear T hx hl h1 h2 k1 k2 k3 k4
 go_enter Tryz.func24, Tryz.ntmps24
 go_wp2_with fail
 (with_reducible refine CM.out.mono ?_); rintro e w1 ⟨A2, c2, rfl, i, p, b⟩
 have I := Ho.mk (And.intro i (And.intro p b))
 clear CM i p b
 go_wp2
 go_ret2
 exact ⟨A2, c2, rfl, I.out.1, I.out.2.1, I.out.2.2⟩
end Kf
namespace Ln
open Ieee Go Go.RowKit Go.Proofs Go.Proofs.YtalbgklfhabnkaaGreatDoor Ow Dt Gp I0 U0 W0 S4 S6 P0 M0 M1 M3 W4 W5 V2 P4 Y3 Yh Y1 P8 Pc Y5 Y6 Y7 Pk Lv Le Z4 Kc
open Go.Proofs.YtalbgklfhabnkaaGreatDoor.Kf (d1R d1E pS okS_c okS_s Part MakesPE dDct1 dDst1)
open Go.Proofs.YtalbgklfhabnkaaGreatDoor.S4 (infoF)
open Go.Proofs.YtalbgklfhabnkaaGreatDoor.W1 (Nm)
open Go.Proofs.YtalbgklfhabnkaaGreatDoor.W2 (P2)
open Go.Proofs.YtalbgklfhabnkaaGreatDoor.V1 (NI St ni_same ni_loop St.refl St.of_bel blk_keep ni_blk put_st)
open Go.Proofs.YtalbgklfhabnkaaGreatDoor.C6 (leaveAny)
open Go.Proofs.YtalbgklfhabnkaaGreatDoor.Pg (In)
attribute [local go_sem ↓] Go.wp_at_zero Go.wp_at_succ
def MakesI (w : World) (Z : List Nat) (z : Int) (e : Ending) (w' : World) : Prop := ∃ A c, e = .returned (.tuple #[.slice A Z.length c, .int .i64 z]) ∧ In w' (.slice A Z.length c) Z ∧ Bel w w'
theorem idI {w : World} {v : Value} {Z : List Nat} (h : In w v Z) (_ : Z.length ≤ 100000) : In w v Z := h
section
variable {A : Option Addr} {n c : Nat} {X : List Nat} {w : World}
theorem pDct1 (T : Tab w) (hx : In w (.slice A n c) X) (hl : X.length ≤ 64) {Z : List Nat} {z : Int} (h1 : Z = d1R false X) (h2 : z = d1E false X) :
  Calls Tryz.prog 23 #[.slice A n c] w (MakesI w Z z) := by
 refine (dDct1 T hx hl h1 h2).mono ?_
 rintro e w' ⟨A, c, rfl, i, _, b⟩; exact ⟨A, c, rfl, i, b⟩
theorem pDst1 (T : Tab w) (hx : In w (.slice A n c) X) (hl : X.length ≤ 64) {Z : List Nat} {z : Int} (h1 : Z = d1R true X) (h2 : z = d1E true X) :
  Calls Tryz.prog 24 #[.slice A n c] w (MakesI w Z z) := by
 refine (dDst1 T hx hl h1 h2).mono ?_
 rintro e w' ⟨A, c, rfl, i, _, b⟩; exact ⟨A, c, rfl, i, b⟩
end
theorem head18_0 : d1R false [4607182418800017408, 4611686018427387904, 4613937818241073152] = [4616189618054758400, 13830554455654793216, 0] ∧ d1E false [4607182418800017408, 4611686018427387904, 4613937818241073152] = 0 := by decide +kernel
theorem head18_1 : d1R true [4613937818241073152] = [4613937818241073152] ∧ d1E true [4613937818241073152] = 0 := by decide +kernel
theorem head18_2 : d1R false [4607182418800017408, 4611686018427387904] = [] ∧ d1E false [4607182418800017408, 4611686018427387904] = 2 := by decide +kernel
theorem head18_3 : d1R true [] = [] ∧ d1E true [] = 2 := by decide +kernel
theorem head18 (w : World) (T : Tab w) : Calls Tryz.prog 22 #[] w (fun e w' => e = .returned (.bool true) ∧ Bel w w') := by
 have TT := Ho.mk T
 clear T
 go_enter Tryz.func22, Tryz.ntmps22
 go_wp2_with fail
 have K0 := Ho.mk (Blk.new w [.float .f64 4607182418800017408, .float .f64 4611686018427387904, .float .f64 4613937818241073152] 22)
 have g1 := Ho.mk ((Bel.refl w).alloc (.cells #[.float .f64 4607182418800017408, .float .f64 4611686018427387904, .float .f64 4613937818241073152] 22))
 generalize w.alloc (.cells #[.float .f64 4607182418800017408, .float .f64 4611686018427387904, .float .f64 4613937818241073152] 22) = v2 at *
 have R3 := Ho.mk (litRow (X := [4607182418800017408, 4611686018427387904, 4613937818241073152]) K0.out rfl (by decide) (n := 3) rfl (by decide))
 obtain ⟨Z0, hZ0⟩ : ∃ Z : List Nat, Z = [4616189618054758400, 13830554455654793216, 0] := ⟨_, rfl⟩
 have C4 := Ho.mk (pDct1 (TT.out.bel g1.out) (inn R3.out (by decide)) (by decide) (Z := Z0) (z := 0) (hZ0.trans head18_0.1.symm) head18_0.2.symm)
 (with_reducible refine C4.out.mono ?_); rintro e v5 ⟨Q0, c0, rfl, t0, b6⟩
 have b6H := Ho.mk b6
 have T0 := Ho.mk t0
 clear C4 b6 t0
 have HZ0 := Ho.mk hZ0
 clear hZ0
 go_wp2_with fail
 have K1 := Ho.mk (Blk.new v5 [.float .f64 4613937818241073152] 22)
 have g7 := Ho.mk ((Bel.refl v5).alloc (.cells #[.float .f64 4613937818241073152] 22))
 generalize v5.alloc (.cells #[.float .f64 4613937818241073152] 22) = v8 at *
 have R9 := Ho.mk (litRow (X := [4613937818241073152]) K1.out rfl (by decide) (n := 1) rfl (by decide))
 obtain ⟨Z1, hZ1⟩ : ∃ Z : List Nat, Z = [4613937818241073152] := ⟨_, rfl⟩
 have C10 := Ho.mk (pDst1 (TT.out.bel ((g1.out.trans b6H.out).trans g7.out)) (inn R9.out (by decide)) (by decide) (Z := Z1) (z := 0) (hZ1.trans head18_1.1.symm) head18_1.2.symm)
 (with_reducible refine C10.out.mono ?_); rintro e v11 ⟨Q1, c1, rfl, t1, b12⟩
 have b12H := Ho.mk b12
 have T1 := Ho.mk t1
 clear C10 b12 t1
 have HZ1 := Ho.mk hZ1
 clear hZ1
 go_wp2_with fail
 have K2 := Ho.mk (Blk.new v11 [.float .f64 4607182418800017408, .float .f64 4611686018427387904] 22)
 have g13 := Ho.mk ((Bel.refl v11).alloc (.cells #[.float .f64 4607182418800017408, .float .f64 4611686018427387904] 22))
 generalize v11.alloc (.cells #[.float .f64 4607182418800017408, .float .f64 4611686018427387904] 22) = v14 at *
 have R15 := Ho.mk (litRow (X := [4607182418800017408, 4611686018427387904]) K2.out rfl (by decide) (n := 2) rfl (by decide))
 obtain ⟨Z2, hZ2⟩ : ∃ Z : List Nat, Z = [] := ⟨_, rfl⟩
 have C16 := Ho.mk (pDct1 (TT.out.bel ((((g1.out.trans b6H.out).trans g7.out).trans b12H.out).trans g13.out)) (inn R15.out (by decide)) (by decide) (Z := Z2) (z := 2) (hZ2.trans head18_2.1.symm) head18_2.2.symm)
 (with_reducible refine C16.out.mono ?_); rintro e v17 ⟨Q2, c2, rfl, t2, b18⟩
 have b18H := Ho.mk b18
 have T2 := Ho.mk t2
 clear C16 b18 t2
 clear hZ2
 go_wp2_with fail
 obtain ⟨Z3, hZ3⟩ : ∃ Z : List Nat, Z = [] := ⟨_, rfl⟩
 have C19 := Ho.mk (pDst1 (TT.out.bel (((((g1.out.trans b6H.out).trans g7.out).trans b12H.out).trans g13.out).trans b18H.out)) (in_nil _ none) (by decide) (Z := Z3) (z := 2) (hZ3.trans head18_3.1.symm) head18_3.2.symm)
 (with_reducible refine C19.out.mono ?_); rintro e v20 ⟨Q3, c3, rfl, t3, b21⟩
 have b21H := Ho.mk b21
 have T3 := Ho.mk t3
 clear C19 b21 t3
 clear hZ3
 go_wp2_with fail
 have M0 := Ho.mk (Blk.new v20 [.float .f64 4616189618054758400, .float .f64 13830554455654793216, .float .f64 0] 22)
 have g22 := Ho.mk ((Bel.refl v20).alloc (.cells #[.float .f64 4616189618054758400, .float .f64 13830554455654793216, .float .f64 0] 22))
 generalize v20.alloc (.cells #[.float .f64 4616189618054758400, .float .f64 13830554455654793216, .float .f64 0] 22) = v23 at *
 have R24 := Ho.mk (litRow (X := [4616189618054758400, 13830554455654793216, 0]) M0.out rfl (by decide) (n := 3) rfl (by decide))
 have C25 := Ho.mk (pSameRow (z := true) (idI (T0.out.bel (((((g7.out.trans b12H.out).trans g13.out).trans b18H.out).trans b21H.out).trans g22.out)) (by rw [HZ0.out]; decide)) (inn R24.out (by decide)) (by rw [HZ0.out]; decide) (by decide) (by rw [HZ0.out]; decide))
 (with_reducible refine C25.out.mono ?_); rintro e v26 ⟨rfl, b27⟩
 have b27H := Ho.mk b27
 clear C25 b27
 go_wp2_with fail
 have M1 := Ho.mk (Blk.new v26 [.float .f64 4613937818241073152] 22)
 have g28 := Ho.mk ((Bel.refl v26).alloc (.cells #[.float .f64 4613937818241073152] 22))
 generalize v26.alloc (.cells #[.float .f64 4613937818241073152] 22) = v29 at *
 have R30 := Ho.mk (litRow (X := [4613937818241073152]) M1.out rfl (by decide) (n := 1) rfl (by decide))
 have C31 := Ho.mk (pSameRow (z := true) (idI (T1.out.bel (((((g13.out.trans b18H.out).trans b21H.out).trans g22.out).trans b27H.out).trans g28.out)) (by rw [HZ1.out]; decide)) (inn R30.out (by decide)) (by rw [HZ1.out]; decide) (by decide) (by rw [HZ1.out]; decide))
 (with_reducible refine C31.out.mono ?_); rintro e v32 ⟨rfl, b33⟩
 have b33H := Ho.mk b33
 clear C31 b33
 go_wp2
 go_ret
 exact ⟨rfl, ((((((((((g1.out.trans b6H.out).trans g7.out).trans b12H.out).trans g13.out).trans b18H.out).trans b21H.out).trans g22.out).trans b27H.out).trans g28.out).trans b33H.out)⟩
end Ln
namespace Lj
open Ieee Go Go.RowKit Go.Proofs Go.Proofs.YtalbgklfhabnkaaGreatDoor Ow Dt Gp I0 U0 W0 S4 S6 P0 M0 M1 M3 W4 W5 V2 P4 Y3 Yh Y1 P8 Pc Y5 Y6 Y7 Pk Lv Le Pc
open Go.Proofs.YtalbgklfhabnkaaGreatDoor.S4 (infoF)
open Go.Proofs.YtalbgklfhabnkaaGreatDoor.W1 (Nm)
open Go.Proofs.YtalbgklfhabnkaaGreatDoor.W2 (P2)
open Go.Proofs.YtalbgklfhabnkaaGreatDoor.V1 (NI St ni_same ni_loop St.refl St.of_bel blk_keep ni_blk put_st)
open Go.Proofs.YtalbgklfhabnkaaGreatDoor.C6 (leaveAny)
open Go.Proofs.YtalbgklfhabnkaaGreatDoor.Pg (In)
attribute [local go_sem ↓] Go.wp_at_zero Go.wp_at_succ
theorem nm_fin {a : Nat} (h : Nm (cn a)) : frung a ≤ infR := by
 rcases Nat.lt_or_ge infR (frung a) with q | q
 ·have := h.fin; rw [cn_nan q] at this; exact absurd this (by decide)
 ·exact q
theorem eqA {r a : Nat} (h : r < 2 * sgnW) (ha : a < 2 * sgnW) (hn : Nm (cn a)) (e : cn r = cn a) : (FloatKind.f64.format.order r a != some .eq) = false := by
 have h1 := alike_cn h ha
 rw [e, decide_eq_true rfl] at h1
 unfold G3.alike at h1
 have h2 : (FloatKind.f64.format.order a a != some .eq) = false := by
  rw [show FloatKind.f64.format.order a a = some (compare (V a) (V a)) from order_le ha ha (nm_fin hn) (nm_fin hn), cmp_int, if_neg (by omega), if_pos rfl]; rfl
 rw [h2, Bool.and_false, Bool.or_false] at h1
 simp only [bne, h1, Bool.not_true]
end Lj
namespace Z5
open Ieee Go Gp Gq Gr G9 U0 W0 W1 W2 M0 M1 M2 M3 Pc Pn Y1 Z4
theorem ov_one {a : Nat} (h : Nm a) : ov 1 a = R (V a) 1 := by
 unfold ov
 rw [fdiv_P2 h.lt h.cl (by omega)]; exact fmul_down h (by omega)
end Z5
namespace Z6
open Ieee Go Gp Gq Gr G9 U0 W0 W1 W2 M0 M1 M2 M3 Pc Pn Y1 Z4 Z5
theorem small_r {m c : Nat} (hm : m < 2 ^ 53) (hc : 52 ≤ c) (hc2 : c ≤ 1900) : ∃ r, m * 2 ^ c = mag r ∧ r < infR := by
 by_cases h0 : m = 0
 ·subst h0; exact ⟨0, by rw [mag_zero, Nat.zero_mul], by decide⟩
 have l1 := Nat.log2_self_le h0
 have l2 : m < 2 ^ (m.log2 + 1) := Nat.lt_log2_self
 have l3 : m.log2 < 53 := (Nat.log2_lt h0).2 hm
 have b1 : bn ≤ m * 2 ^ (52 - m.log2) := by
  rw [bn_eq, show (52 : Nat) = m.log2 + (52 - m.log2) by omega, Nat.pow_add]
  rw [show m.log2 + (52 - m.log2) - m.log2 = 52 - m.log2 by omega]
  exact Nat.mul_le_mul_right _ l1
 have b2 : m * 2 ^ (52 - m.log2) < 2 * bn := by
  rw [show 2 * bn = 2 ^ 53 from rfl, show (53 : Nat) = m.log2 + 1 + (52 - m.log2) by omega, Nat.pow_add]
  exact Nat.mul_lt_mul_of_pos_right l2 (Nat.two_pow_pos _)
 refine ⟨(c - (52 - m.log2)) * bn + m * 2 ^ (52 - m.log2), ?_, ?_⟩
 ·rw [mag_at _ _ (by omega) (.inr b1), Nat.mul_assoc, ← Nat.pow_add]
  congr 2; omega
 ·have : (c - (52 - m.log2)) * bn ≤ 1900 * bn := Nat.mul_le_mul_right _ (by omega)
  have e : 1900 * bn + 2 * bn ≤ infR := by decide
  omega
def I4 (v : Int) : Nat := R (v * 2 ^ 1072) 0
theorem abs_pow (v : Int) (c : Nat) : (v * 2 ^ c).natAbs = v.natAbs * 2 ^ c := by rw [Int.natAbs_mul, Int.natAbs_pow]; rfl
theorem I4_c {v : Int} {c : Nat} (hc : c = 1072) (h : v.natAbs < 2 ^ 53) : Nm (R (v * 2 ^ c) 0) ∧ V (R (v * 2 ^ c) 0) = v * 2 ^ c := by
 obtain ⟨r, h1, h2⟩ := small_r (c := c) h (by omega) (by omega)
 have := R_exact (v := v * 2 ^ c) (s := 0) (r := r) (by rw [abs_pow, h1, Nat.pow_zero, Nat.mul_one]) h2
 rw [Int.pow_zero, Int.mul_one] at this
 exact this
theorem I4_ok {v : Int} (h : v.natAbs < 2 ^ 53) : Nm (I4 v) ∧ V (I4 v) = v * 2 ^ 1072 := I4_c rfl h
theorem I4_zero : I4 0 = 0 := by unfold I4; rw [Int.zero_mul]; exact R_zero 0
section
variable {a b : Int}
theorem I4_add (ha : a.natAbs < 2 ^ 53) (hb : b.natAbs < 2 ^ 53) : fadd (I4 a) (I4 b) = I4 (a + b) := by
 rw [fadd_fin (I4_ok ha).1 (I4_ok hb).1, (I4_ok ha).2, (I4_ok hb).2, ← Int.add_mul]; rfl
theorem I4_sub (ha : a.natAbs < 2 ^ 53) (hb : b.natAbs < 2 ^ 53) : fsub (I4 a) (I4 b) = I4 (a - b) := by
 rw [fsub_fin (I4_ok ha).1 (I4_ok hb).1, (I4_ok ha).2, (I4_ok hb).2, ← Int.sub_mul]; rfl
theorem I4_neg (ha : a.natAbs < 2 ^ 53) : fng (I4 a) = I4 (-a) := by
 have f := fng_facts (I4_ok ha).1
 have k := I4_ok (v := -a) (by omega)
 refine nm_inj f.1 k.1 ?_
 rw [f.2, k.2, (I4_ok ha).2, Int.neg_mul]
theorem I4_down (ha : (2 * a).natAbs < 2 ^ 53) : R (V (I4 (2 * a))) 1 = I4 a := by
 rw [(I4_ok ha).2]
 have := R_scale (a * 2 ^ 1072) 0 1
 rw [Nat.zero_add] at this
 unfold I4
 rw [← this]
 congr 1
 rw [Int.pow_one, Int.mul_assoc, Int.mul_comm 2, Int.mul_assoc]
theorem I4_half (ha : (2 * a).natAbs < 2 ^ 53) : fmul (I4 (2 * a)) halfW = I4 a := by
 rw [half_P2, fmul_down (I4_ok ha).1 (by omega)]; exact I4_down ha
theorem I4_over (ha : (2 * a).natAbs < 2 ^ 53) : ov 1 (I4 (2 * a)) = I4 a := by rw [ov_one (I4_ok ha).1]; exact I4_down ha
theorem I4_one (ha : a.natAbs < 2 ^ 53) : fmul (I4 a) (P2 1023) = I4 a := by
 have := fmul_up (x := I4 a) (p := 0) (I4_ok ha).1 (by omega)
 rw [this, Int.pow_zero, Int.mul_one, R_self (I4_ok ha).1]
theorem I4_two (ha : a.natAbs < 2 ^ 53) : fmul (I4 a) (P2 1024) = I4 (2 * a) := by
 have := fmul_up (x := I4 a) (p := 1) (I4_ok ha).1 (by omega)
 rw [this, (I4_ok ha).2]
 unfold I4
 congr 1
 rw [Int.pow_one, Int.mul_comm 2, Int.mul_assoc, Int.mul_comm _ 2, ← Int.mul_assoc]
theorem I4_nhalf (ha : (2 * a).natAbs < 2 ^ 53) : fmul (I4 (2 * a)) (fng halfW) = I4 (-a) := by
 have hn := fng_facts half_nm
 have e1 : fmul (I4 (2 * a)) (fng halfW) = fmul (fng (I4 (2 * a))) halfW := by
  rw [fmul_fin (I4_ok ha).1 hn.1, hn.2, fmul_fin (fng_facts (I4_ok ha).1).1 half_nm, (fng_facts (I4_ok ha).1).2, Int.mul_neg, Int.neg_mul]
 rw [e1, I4_neg ha, show -(2 * a) = 2 * -a by omega]
 exact I4_half (by omega)
end
theorem tab21 : tabW 2 1 = (0, P2 1023) := by decide +kernel
theorem into1 (x z y u : Nat) : intoN 1 ([x, z], [y, u]) = ([fadd x z, fsub x z], [fadd y u, fsub y u]) := by
 kernel_rfl
theorem rfft4 (x y z u : Nat) : rfftN 2 [x, y, z, u] = [fadd (fadd x z) (fadd y u), fsub (fadd x z) (fadd y u),
  (binG opsN (0, P2 1023) (fsub x z) (fsub y u) (fsub x z) (fsub y u)).1, (binG opsN (0, P2 1023) (fsub x z) (fsub y u) (fsub x z) (fsub y u)).2] := by
 have e : rfftZ 2 [x, y, z, u] = ([fadd x z, fsub x z], [fadd y u, fsub y u]) := by
  unfold rfftZ
  rw [show evenG opsN [x, y, z, u] = [x, z] by kernel_rfl, show oddG opsN [x, y, z, u] = [y, u] by kernel_rfl]
  exact into1 x z y u
 unfold rfftN
 rw [e, show List.range (2 ^ 2) = [0, 1, 2, 3] by decide]
 simp only [List.map_cons, List.map_nil, packAt]
 rw [← tab21]
 rfl
theorem zz : fmul 0 (P2 1023) = 0 ∧ fmul 0 0 = 0 ∧ fadd 0 0 = 0 ∧ fsub 0 0 = 0 ∧ fmul 0 halfW = 0 ∧ fng 0 = 0 := by decide +kernel
theorem bin_re {a : Int} (ha : (2 * a).natAbs < 2 ^ 53) : (binG opsN (0, P2 1023) (I4 a) 0 (I4 a) 0).1 = I4 a := by
 have e1 : opsN.add 0 0 = 0 := zz.2.2.1
 have e2 : opsN.mul 0 halfW = 0 := zz.2.2.2.2.1
 have e3 : opsN.add (opsN.neg (I4 a)) (I4 a) = 0 := by
  show fadd (fng (I4 a)) (I4 a) = 0
  rw [I4_neg (by omega), I4_add (by omega) (by omega), show -a + a = 0 by omega, I4_zero]
 have e4 : opsN.mul (opsN.add (I4 a) (I4 a)) halfW = I4 a := by
  show fmul (fadd (I4 a) (I4 a)) halfW = _
  rw [I4_add (by omega) (by omega), show a + a = 2 * a by omega, I4_half ha]
 have e5 : opsN.mul 0 (P2 1023) = 0 := zz.1
 have e6 : opsN.mul 0 0 = 0 := zz.2.1
 have el : ∀ n, opsN.lit n = n := fun _ => rfl
 have e7 : opsN.add (I4 a) 0 = I4 a := fadd_zero (I4_ok (by omega)).1
 unfold binG cturn
 simp only [e1, e2, e3, e4, e5, e6, el, e7]
theorem bin_im {a : Int} (ha : (2 * a).natAbs < 2 ^ 53) : (binG opsN (0, P2 1023) 0 (I4 a) 0 (I4 a)).2 = I4 (-a) := by
 have e1 : opsN.add (opsN.neg 0) 0 = 0 := by show fadd (fng 0) 0 = 0; rw [zz.2.2.2.2.2]; exact zz.2.2.1
 have e2 : opsN.mul 0 halfW = 0 := zz.2.2.2.2.1
 have e3 : opsN.mul (opsN.add (I4 a) (I4 a)) halfW = I4 a := by
  show fmul (fadd (I4 a) (I4 a)) halfW = _
  rw [I4_add (by omega) (by omega), show a + a = 2 * a by omega, I4_half ha]
 have e4 : opsN.mul (opsN.add (I4 a) (opsN.neg (I4 a))) halfW = 0 := by
  show fmul (fadd (I4 a) (fng (I4 a))) halfW = 0
  rw [I4_neg (by omega), I4_add (by omega) (by omega), show a + -a = 0 by omega, I4_zero]; exact zz.2.2.2.2.1
 have e5 : opsN.mul 0 0 = 0 := zz.2.1
 have e6 : opsN.mul (I4 a) (P2 1023) = I4 a := I4_one (by omega)
 have el : ∀ n, opsN.lit n = n := fun _ => rfl
 have e7 : opsN.add 0 (opsN.sub 0 (I4 a)) = I4 (-a) := by
  show fadd 0 (fsub 0 (I4 a)) = _
  have := I4_sub (a := 0) (b := a) (by decide) (by omega)
  rw [I4_zero, Int.zero_sub] at this
  rw [this]; exact zero_fadd (I4_ok (by omega)).1
 unfold binG cturn
 simp only [e1, e2, e3, e4, e5, e6, el, e7]
theorem nth4 (a b c d : Nat) : nthN [a, b, c, d] 0 = a ∧ nthN [a, b, c, d] 1 = b ∧ nthN [a, b, c, d] 2 = c ∧ nthN [a, b, c, d] 3 = d := ⟨rfl, rfl, rfl, rfl⟩
theorem dct1_three {a b c : Int} (ha : a.natAbs < 2 ^ 40) (hb : b.natAbs < 2 ^ 40) (hc : c.natAbs < 2 ^ 40) :
  dct1N 1 [I4 (4 * a), I4 (4 * b), I4 (4 * c)] = [I4 (2 * a + 4 * b + 2 * c), I4 (2 * a - 2 * c), I4 (2 * a - 4 * b + 2 * c)] := by
 have m : mirN false [I4 (4 * a), I4 (4 * b), I4 (4 * c)] = [I4 (4 * a), I4 (4 * b), I4 (4 * c), I4 (4 * b)] := rfl
 have e : rfftN 2 [I4 (4 * a), I4 (4 * b), I4 (4 * c), I4 (4 * b)] = [I4 (2 * (2 * a + 4 * b + 2 * c)), I4 (2 * (2 * a - 4 * b + 2 * c)), I4 (2 * (2 * a - 2 * c)), (rfftN 2 [I4 (4 * a), I4 (4 * b), I4 (4 * c), I4 (4 * b)]).getD 3 0] := by
  rw [rfft4, I4_add (by omega) (by omega), I4_add (by omega) (by omega), I4_sub (by omega) (by omega), I4_sub (by omega) (by omega), I4_add (by omega) (by omega), I4_sub (by omega) (by omega), Int.sub_self, I4_zero, bin_re (by omega)]
  congr 1
  ·congr 1; omega
  congr 1
  ·congr 1; omega
  congr 1
  congr 1; omega
 unfold dct1N
 rw [m, show 1 + 1 = 2 from rfl, e]
 generalize (rfftN 2 _).getD 3 0 = q
 rw [show List.range (2 ^ 1 + 1) = [0, 1, 2] by decide]
 simp only [List.map_cons, List.map_nil]
 rw [if_pos (by decide), if_pos (by decide), if_neg (by decide)]
 obtain ⟨n0, n1, n2, _⟩ := nth4 (I4 (2 * (2 * a + 4 * b + 2 * c))) (I4 (2 * (2 * a - 4 * b + 2 * c))) (I4 (2 * (2 * a - 2 * c))) q
 rw [show 2 * 0 = 0 from rfl, show 2 * 1 = 2 from rfl, n0, n1, n2, I4_half (by omega), I4_half (by omega), I4_half (by omega)]
theorem dst1_single {a : Int} (ha : a.natAbs < 2 ^ 40) : dst1N 1 [I4 (4 * a)] = [I4 (4 * a)] := by
 have m : mirN true (padN [I4 (4 * a)]) = [0, I4 (4 * a), 0, fng (I4 (4 * a))] := rfl
 have e : nthN (rfftN 2 [0, I4 (4 * a), 0, fng (I4 (4 * a))]) 3 = I4 (2 * -(4 * a)) := by
  rw [rfft4, I4_neg (by omega), I4_sub (by omega) (by omega), zz.2.2.2.1, (nth4 _ _ _ _).2.2.2, bin_im (by omega)]
  congr 1; omega
 unfold dst1N
 rw [m, show 1 + 1 = 2 from rfl, show List.range (2 ^ 1 - 1) = [0] by decide]
 simp only [List.map_cons, List.map_nil]
 rw [show 2 * (0 + 1) + 1 = 3 from rfl, e, I4_nhalf (by omega)]
 congr 2; omega
theorem toX_c {m c : Nat} (hc : c = 1072) : toX m 0 = m * 2 ^ 2 * 2 ^ c := by
 unfold toX
 rw [show ((0 : Int) + 1074).toNat = 2 + c by omega, Nat.pow_add, Nat.mul_assoc]
theorem cn_int {v : Int} : cn (FloatKind.f64.nearest v) = I4 (4 * v) := by
 have e : cn (FloatKind.f64.nearest v) = told (some (.number (decide (v < 0)) v.natAbs 0)) := rfl
 rw [e]
 by_cases h0 : v = 0
 ·subst h0; rw [show (0 : Int).natAbs = 0 from rfl, told_num0]; exact I4_zero.symm
 ·rw [told_num _ (by omega)]
  have hx : toX v.natAbs 0 = (4 * v * 2 ^ 1072).natAbs := by
   rw [abs_pow, toX_c rfl]
   congr 1
   rw [Int.natAbs_mul, Nat.mul_comm]; rfl
  unfold I4 R
  rw [hx, show toS 0 = 0 by decide]
  have hpos : (0 : Int) < 2 ^ 1072 := Int.pow_pos (by decide)
  have e3 : decide (4 * v * 2 ^ 1072 < 0) = decide (v < 0) := by
   by_cases ht : v < 0
   ·rw [decide_eq_true ht, decide_eq_true (Int.mul_neg_of_neg_of_pos (by omega) hpos)]
   ·rw [decide_eq_false ht, decide_eq_false (by have := Int.mul_nonneg (show 0 ≤ 4 * v by omega) (Int.le_of_lt hpos); omega)]
  rw [e3]
end Z6
namespace Lp
open Ieee Go Go.RowKit Go.Proofs Go.Proofs.YtalbgklfhabnkaaGreatDoor Ow Dt Gp I0 U0 W0 S4 S6 P0 M0 M1 M3 W4 W5 V2 P4 Y3 Yh Y1 P8 Pc Y5 Y6 Y7 Pk Lv Le Z4 Kc Ln Lj Z5 Z6 Pc Pn G3 Pl N2 Dp
open Go.Proofs.YtalbgklfhabnkaaGreatDoor.F1 (Dv MakesD rOf rAdd)
open Go.Proofs.YtalbgklfhabnkaaGreatDoor.Gq (fv)
open Go.Proofs.YtalbgklfhabnkaaGreatDoor.Kf (d1R d1E pS okS_c okS_s Part MakesPE dDct1 dDst1)
open Go.Proofs.YtalbgklfhabnkaaGreatDoor.S4 (infoF)
open Go.Proofs.YtalbgklfhabnkaaGreatDoor.W1 (Nm)
open Go.Proofs.YtalbgklfhabnkaaGreatDoor.W2 (P2)
open Go.Proofs.YtalbgklfhabnkaaGreatDoor.V1 (NI St ni_same ni_loop St.refl St.of_bel blk_keep ni_blk put_st)
open Go.Proofs.YtalbgklfhabnkaaGreatDoor.C6 (leaveAny)
open Go.Proofs.YtalbgklfhabnkaaGreatDoor.Pg (In)
attribute [local go_sem ↓] Go.wp_at_zero Go.wp_at_succ
theorem whole {v : Int} : FloatKind.f64.nearest v < 2 * sgnW ∧ cn (FloatKind.f64.nearest v) = I4 (4 * v) := ⟨by have h := write_lt (.number (decide (v < 0)) v.natAbs 0); exact h, cn_int⟩
theorem cn_fin {r : Nat} (h : Nm (cn r)) : frung r < infR ∧ V r = V (cn r) := by
 have hf := h.fin
 unfold cn at hf ⊢
 split at hf
 ·exact absurd hf (by decide)
 ·rename_i q1
  rw [if_neg q1]
  split at hf
  ·rename_i q2
   rw [if_pos q2]
   refine ⟨by rw [q2]; decide, ?_⟩
   have := W1.V_abs r
   rw [q2, mag_zero] at this
   have e0 : V r = 0 := by omega
   rw [e0]; decide
  ·rename_i q2
   rw [if_neg q2]; exact ⟨hf, rfl⟩
theorem fv_c {v n : Int} (c s k : Nat) (h1 : v = 4 * n * 2 ^ c) (hc : c + 2 + s = k) : v * 2 ^ s = n * 2 ^ k := by
 subst hc
 rw [h1, Int.pow_add, Int.pow_add, show (2 : Int) ^ 2 = 4 from rfl]
 generalize (2 : Int) ^ c = x
 generalize (2 : Int) ^ s = y
 ac_rfl
theorem dPt {b : Nat} (w : World) (hb : b < 2 * sgnW) (h : frung b < infR) :
  Calls Tryz.prog 28 #[.float .f64 b] w (I0.MakesI w (fv b, fv b) 1074 1024) := by
 have KR := Ho.mk (Blk.new w [.bool false, .slice none 0 0, .int .i64 0, .bool false, .slice none 0 0, .int .i64 0] 42)
 have g0 := Ho.mk ((Bel.refl w).alloc (.cells #[.bool false, .slice none 0 0, .int .i64 0, .bool false, .slice none 0 0, .int .i64 0] 42))
 have C1 := Ho.mk (G5.rof_yes_calls hb h (w.alloc (.cells #[.bool false, .slice none 0 0, .int .i64 0, .bool false, .slice none 0 0, .int .i64 0] 42)))
 clear hb h
 obtain ⟨v, hv⟩ : ∃ v, v = fv b := ⟨_, rfl⟩
 rw [← hv] at C1 ⊢
 clear hv
 go_enter Tryz.func28, Tryz.ntmps28
 go_wp2_with fail
 (with_reducible refine C1.out.mono ?_); rintro e w1 ⟨A, c, rfl, d1, b1⟩
 have KD := Ho.mk (Blk.new w1 [.bool (dneg v), .slice A (digs (dm v)).length c, .int .i64 (de v)] 37)
 have g1 := Ho.mk ((g0.out.trans b1).alloc (.cells #[.bool (dneg v), .slice A (digs (dm v)).length c, .int .i64 (de v)] 37))
 obtain ⟨y0, y1, y2⟩ := KD.out.c3
 have D1 := Ho.mk (d1.bel ((Bel.refl w1).alloc (.cells #[.bool (dneg v), .slice A (digs (dm v)).length c, .int .i64 (de v)] 37)))
 have KR1 := Ho.mk ((KR.out.bel b1).old (.cells #[.bool (dneg v), .slice A (digs (dm v)).length c, .int .i64 (de v)] 37))
 clear C1 d1 b1 KR
 go_wp2_with fail
 (with_reducible refine (I1.rPoint _ D1.out).mono ?_); rintro e w2 ⟨A2, c2, B2, d2, rfl, n1, n2, b2⟩
 have KRz := Ho.mk (KR1.out.bel b2)
 have BZ := Ho.mk (g1.out.trans b2)
 have N := Ho.mk (And.intro n1 n2)
 clear y0 y1 y2 KD KR1 g1 n1 n2 b2 D1
 have yr0 := KRz.out.cell (i := 0) rfl
 have zr0 := KRz.out.free 0
 have yr1 := KRz.out.cell (i := 1) rfl
 have zr1 := KRz.out.free 1
 have yr2 := KRz.out.cell (i := 2) rfl
 have zr2 := KRz.out.free 2
 have yr3 := KRz.out.cell (i := 3) rfl
 have zr3 := KRz.out.free 3
 have yr4 := KRz.out.cell (i := 4) rfl
 have zr4 := KRz.out.free 4
 have yr5 := KRz.out.cell (i := 5) rfl
 have zr5 := KRz.out.free 5
 go_wp2
 exact I0.gives_endI (fn := Tryz.f28) (i := (v, v)) rfl rfl BZ.out (Nat.le_refl _) KRz.out N.out.1 N.out.2
theorem run_sure {P : Program} (op : BinOp) (f : Nat → Nat → Option Datum) (hf : ∀ x y, floatBits op .f64 x y = (f x y).map double.write) (t : TypeId) (a b : Nat) {x : Nat} (hx : told (f a b) = x) (h : Nm x) :
  ∃ r, (∀ w, (binOp op t (.float .f64 a) (.float .f64 b)).run P w = .ok (.float .f64 r) w) ∧ r < 2 * sgnW ∧ cn r = x := by
 cases hd : f a b with
 | some d => exact ⟨double.write d, fun w => run_float_arith w op t .f64 a b _ (by rw [hf, hd]; rfl), write_lt d, by rw [← hx, hd]; rfl⟩
 | none =>
  rw [hd] at hx
  have e : x = qn := hx.symm
  have := h.fin
  rw [e] at this
  exact absurd this (by decide)
theorem sure_add {P : Program} (t : TypeId) {a b x : Nat} (ha : a < 2 * sgnW) (hb : b < 2 * sgnW) (hx : fadd (cn a) (cn b) = x) (h : Nm x) : ∃ r, (∀ w, (binOp .add t (.float .f64 a) (.float .f64 b)).run P w = .ok (.float .f64 r) w) ∧ r < 2 * sgnW ∧ cn r = x :=
 run_sure .add (fun x y => (double.read x).sum (double.read y)) (fun _ _ => rfl) t a b (by rw [← hx, fadd_cn ha hb]; rfl) h
theorem sure_sub {P : Program} (t : TypeId) {a b x : Nat} (ha : a < 2 * sgnW) (hb : b < 2 * sgnW) (hx : fsub (cn a) (cn b) = x) (h : Nm x) : ∃ r, (∀ w, (binOp .sub t (.float .f64 a) (.float .f64 b)).run P w = .ok (.float .f64 r) w) ∧ r < 2 * sgnW ∧ cn r = x :=
 run_sure .sub (fun x y => (double.read x).sum (double.read y).opposite) (fun _ _ => rfl) t a b (by rw [← hx, fsub_cn ha hb]; rfl) h
theorem sure_mul {P : Program} (t : TypeId) {a b x : Nat} (ha : a < 2 * sgnW) (hb : b < 2 * sgnW) (hx : fmul (cn a) (cn b) = x) (h : Nm x) : ∃ r, (∀ w, (binOp .mul t (.float .f64 a) (.float .f64 b)).run P w = .ok (.float .f64 r) w) ∧ r < 2 * sgnW ∧ cn r = x :=
 run_sure .mul (fun x y => (double.read x).product (double.read y)) (fun _ _ => rfl) t a b (by rw [← hx, fmul_cn ha hb]; rfl) h
theorem sure_two {P : Program} (t : TypeId) {a x : Nat} (ha : a < 2 * sgnW) (hx : ov 1 (cn a) = x) (h : Nm x) : ∃ r, (∀ w, (binOp .quo t (.float .f64 a) (.float .f64 4611686018427387904)).run P w = .ok (.float .f64 r) w) ∧ r < 2 * sgnW ∧ cn r = x :=
 run_sure .quo (fun x y => (double.read x).quotient (double.fractionBits + 2) (double.read y)) (fun _ _ => rfl) t a 4611686018427387904 (by rw [← hx]; unfold ov; rw [W2.fdiv_cn ha (by decide) (by decide)]; rfl) h
theorem fmul_comm' (x y : Nat) : fmul x y = fmul y x := by
 unfold fmul; congr 1
 cases double.read x <;> cases double.read y <;> simp only [Datum.product]
 all_goals first | rfl | (simp [bne_comm, Nat.mul_comm, Int.add_comm]; done) | (rename_i a b c d e f; simp [Nat.mul_comm, Int.add_comm, bne_comm])
theorem okc3 : okS false 3 = true ∧ pS false 3 = 1 ∧ okS true 1 = true ∧ pS true 1 = 1 := by decide +kernel
theorem small_c {a b c : Int} (ha : a.natAbs < 2 ^ 40) (hb : b.natAbs < 2 ^ 40) (hc : c.natAbs < 2 ^ 40) :
  [I4 (2 * a + 4 * b + 2 * c), I4 (2 * a - 2 * c), I4 (2 * a - 4 * b + 2 * c)] = d1R false [I4 (4 * a), I4 (4 * b), I4 (4 * c)] ∧ 0 = d1E false [I4 (4 * a), I4 (4 * b), I4 (4 * c)] := by
 refine ⟨?_, by unfold d1E; rw [show okS false ([I4 (4 * a), I4 (4 * b), I4 (4 * c)]).length = true from okc3.1]; rfl⟩
 unfold d1R
 rw [show okS false ([I4 (4 * a), I4 (4 * b), I4 (4 * c)]).length = true from okc3.1, show pS false ([I4 (4 * a), I4 (4 * b), I4 (4 * c)]).length = 1 from okc3.2.1]
 exact (dct1_three ha hb hc).symm
theorem small_s {a : Int} (ha : a.natAbs < 2 ^ 40) : [I4 (4 * a)] = d1R true [I4 (4 * a)] ∧ 0 = d1E true [I4 (4 * a)] := by
 refine ⟨?_, by unfold d1E; rw [show okS true ([I4 (4 * a)]).length = true from okc3.2.2.1]; rfl⟩
 unfold d1R
 rw [show okS true ([I4 (4 * a)]).length = true from okc3.2.2.1, show pS true ([I4 (4 * a)]).length = 1 from okc3.2.2.2]
 exact (dst1_single ha).symm
theorem lit1 {w : World} {b r x : Nat} (K : Blk w b 22 [.float .f64 r]) (h : r < 2 * sgnW ∧ cn r = x) : In w (.slice (some ⟨b, 0, none⟩) 1 1) [x] := by
 refine ⟨some ⟨b, 0, none⟩, 1, rfl, Nat.le_refl _, by decide, Fz.fr ⟨_, K, fun j hj => ?_⟩ (by simp), fun e => by cases e⟩
 obtain rfl : j = 0 := by simp at hj; omega
 exact ⟨_, rfl, r, rfl, h.1, h.2⟩
theorem lit3 {w : World} {b r s t x y z : Nat} (K : Blk w b 22 [.float .f64 r, .float .f64 s, .float .f64 t]) (h1 : r < 2 * sgnW ∧ cn r = x) (h2 : s < 2 * sgnW ∧ cn s = y) (h3 : t < 2 * sgnW ∧ cn t = z) : In w (.slice (some ⟨b, 0, none⟩) 3 3) [x, y, z] := by
 refine ⟨some ⟨b, 0, none⟩, 3, rfl, Nat.le_refl _, by decide, Fz.fr ⟨_, K, fun j hj => ?_⟩ (by simp), fun e => by cases e⟩
 have : j = 0 ∨ j = 1 ∨ j = 2 := by simp at hj; omega
 rcases this with rfl | rfl | rfl
 ·exact ⟨_, rfl, r, rfl, h1.1, h1.2⟩
 ·exact ⟨_, rfl, s, rfl, h2.1, h2.2⟩
 ·exact ⟨_, rfl, t, rfl, h3.1, h3.2⟩
theorem eqB {r a : Nat} (h : r < 2 * sgnW) (ha : a < 2 * sgnW) (hn : Nm (cn a)) (e : cn r = cn a) : (FloatKind.f64.format.order r a == some .eq) = true := by
 have := eqA h ha hn e
 simpa [bne] using this
theorem two_ok : (4611686018427387904 : Nat) < 2 * sgnW ∧ cn 4611686018427387904 = P2 1024 ∧ P2 (1023 + 1) = 4611686018427387904 := by decide +kernel
theorem small18 {a b c : Int} (w : World) (T : Tab w) (ha : -32768 ≤ a ∧ a ≤ 32767) (hb : -32768 ≤ b ∧ b ≤ 32767) (hc : -32768 ≤ c ∧ c ≤ 32767) :
  Calls Tryz.prog 6 #[.int .i16 a, .int .i16 b, .int .i16 c] w (fun e w' => e = .returned (.bool true) ∧ Bel w w') := by
 have TT := Ho.mk T
 obtain ⟨rx, hrx⟩ : ∃ r, r = FloatKind.f64.nearest a := ⟨_, rfl⟩
 obtain ⟨ry, hry⟩ : ∃ r, r = FloatKind.f64.nearest b := ⟨_, rfl⟩
 obtain ⟨rz, hrz⟩ : ∃ r, r = FloatKind.f64.nearest c := ⟨_, rfl⟩
 have X := Ho.mk (whole (v := a)); have Y := Ho.mk (whole (v := b)); have Z := Ho.mk (whole (v := c))
 rw [← hrx] at X; rw [← hry] at Y; rw [← hrz] at Z
 have fx : floatOfInt .f64 a = rx := hrx.symm
 have fy : floatOfInt .f64 b = ry := hry.symm
 have fz : floatOfInt .f64 c = rz := hrz.symm
 have HB := Ho.mk (And.intro ha (And.intro hb hc))
 obtain ⟨ha1, ha2⟩ := ha; obtain ⟨hb1, hb2⟩ := hb; obtain ⟨hc1, hc2⟩ := hc
 obtain ⟨u, hu⟩ : ∃ u : Int, u = 2 * b * 2 ^ K := ⟨_, rfl⟩
 obtain ⟨v, hv⟩ : ∃ v : Int, v = (a + c) * 2 ^ K := ⟨_, rfl⟩
 have OF1 := Ho.mk (fun (w : World) => rOf (w := w) (2 * b) (by omega) (by omega))
 have OF2 := Ho.mk (fun (w : World) => rOf (w := w) (a + c) (by omega) (by omega))
 rw [← hu] at OF1
 rw [← hv] at OF2
 have HUV := Ho.mk (And.intro hu hv)
 obtain ⟨wt, hwt⟩ : ∃ wt, wt = u + v := ⟨_, rfl⟩
 have HWT := Ho.mk hwt.symm
 clear hu hv hwt
 have SC := Ho.mk (small_c (a := a) (b := b) (c := c) (by omega) (by omega) (by omega))
 have SS := Ho.mk (small_s (a := a) (by omega))
 clear T hrx hry hrz
 go_enter Tryz.func6, Tryz.ntmps6
 go_wp2_with fail
 have C1 := Ho.mk (head18 w (TT.out.bel (Bel.refl _)))
 (with_reducible refine C1.out.mono ?_); rintro e v2 ⟨rfl, b3⟩
 have b3H := Ho.mk b3
 clear C1 b3
 go_wp2_with fail
 have K3 := Ho.mk (Blk.new v2 [.float .f64 rx, .float .f64 ry, .float .f64 rz] 22)
 have g4 := Ho.mk ((Bel.refl v2).alloc (.cells #[.float .f64 rx, .float .f64 ry, .float .f64 rz] 22))
 generalize v2.alloc (.cells #[.float .f64 rx, .float .f64 ry, .float .f64 rz] 22) = v5 at *
 obtain ⟨Z0, hZ0⟩ : ∃ Z, Z = [I4 (2 * a + 4 * b + 2 * c), I4 (2 * a - 2 * c), I4 (2 * a - 4 * b + 2 * c)] := ⟨_, rfl⟩
 rw [← hZ0] at SC
 have R0 := Ho.mk (lit3 K3.out X.out Y.out Z.out)
 have LZ0 := Ho.mk (show Z0.length = 3 by rw [hZ0]; rfl)
 have VZ := Ho.mk (show nthN Z0 0 = I4 (2 * a + 4 * b + 2 * c) ∧ nthN Z0 1 = I4 (2 * a - 2 * c) ∧ nthN Z0 2 = I4 (2 * a - 4 * b + 2 * c) by rw [hZ0]; exact ⟨rfl, rfl, rfl⟩)
 clear hZ0 K3
 have C6 := Ho.mk (dDct1 (TT.out.bel (b3H.out.trans g4.out)) R0.out (by simp) SC.out.1 SC.out.2)
 (with_reducible refine C6.out.mono ?_); rintro e v7 ⟨A0, c0, rfl, _, t0, b8⟩
 have b8H := Ho.mk b8
 clear C6 b8
 obtain ⟨gp, Yp, rfl, fp, _, lp, ep⟩ := t0.out.resolve_left (by rw [LZ0.out]; decide)
 rw [LZ0.out] at lp ep ⊢
 have FP := Ho.mk fp
 have VP := Ho.mk (show (0 < Yp.length ∧ 1 < Yp.length ∧ 2 < Yp.length) ∧ nthN Yp 0 = I4 (2 * a + 4 * b + 2 * c) ∧ nthN Yp 1 = I4 (2 * a - 2 * c) ∧ nthN Yp 2 = I4 (2 * a - 4 * b + 2 * c) by
  refine ⟨by omega, ?_, ?_, ?_⟩
  ·have := ep 0 (by omega); rw [this]; exact VZ.out.1
  ·have := ep 1 (by omega); rw [this]; exact VZ.out.2.1
  ·have := ep 2 (by omega); rw [this]; exact VZ.out.2.2)
 clear t0 fp lp ep VZ SC R0
 go_wp2_with fail
 have K1 := Ho.mk (Blk.new v7 [.float .f64 rx] 22)
 have g9 := Ho.mk ((Bel.refl v7).alloc (.cells #[.float .f64 rx] 22))
 generalize v7.alloc (.cells #[.float .f64 rx] 22) = v10 at *
 have R1 := Ho.mk (lit1 K1.out X.out)
 obtain ⟨Z1, hZ1⟩ : ∃ Z, Z = [I4 (4 * a)] := ⟨_, rfl⟩
 have EZ1 := Ho.mk hZ1
 rw [← hZ1] at SS R1
 have LZ1 := Ho.mk (show Z1.length = 1 by rw [hZ1]; rfl)
 clear K1 hZ1
 have C11 := Ho.mk (pDst1 (TT.out.bel (((b3H.out.trans g4.out).trans b8H.out).trans g9.out)) R1.out (by rw [LZ1.out]; decide) SS.out.1 SS.out.2)
 (with_reducible refine C11.out.mono ?_); rintro e v12 ⟨A1, c1, rfl, t1, b13⟩
 have b13H := Ho.mk b13
 have T1 := Ho.mk t1
 clear C11 b13 t1
 clear SS R1
 rw [LZ1.out] at T1 ⊢
 go_wp2_with fail
 have C14 := Ho.mk (OF1.out v12)
 (with_reducible refine C14.out.mono ?_); rintro e v15 ⟨A2, c2, rfl, d2, b16⟩
 have b16H := Ho.mk b16
 have D2 := Ho.mk d2
 clear C14 b16 d2
 go_wp2_with fail
 have C17 := Ho.mk (OF2.out v15)
 (with_reducible refine C17.out.mono ?_); rintro e v18 ⟨A3, c3, rfl, d3, b19⟩
 have b19H := Ho.mk b19
 have D3 := Ho.mk d3
 clear C17 b19 d3
 go_wp2_with fail
 have C20 := Ho.mk ((by have h := rAdd (D2.out.bel b19H.out) D3.out (by decide) (by decide); rw [HWT.out] at h; exact h))
 (with_reducible refine C20.out.mono ?_); rintro e v21 ⟨A4, c4, rfl, d4, b22⟩
 have b22H := Ho.mk b22
 have D4 := Ho.mk d4
 clear C20 b22 d4
 clear D2 D3 OF1 OF2
 go_wp2_with fail
 have KW := Ho.mk (Blk.new v21 [.bool (dneg wt), .slice A4 (digs (dm wt)).length c4, .int .i64 (de wt)] 37)
 have g23 := Ho.mk ((Bel.refl v21).alloc (.cells #[.bool (dneg wt), .slice A4 (digs (dm wt)).length c4, .int .i64 (de wt)] 37))
 generalize v21.alloc (.cells #[.bool (dneg wt), .slice A4 (digs (dm wt)).length c4, .int .i64 (de wt)] 37) = v24 at *
 obtain ⟨r0, y0, l0, k0⟩ := ((FP.out.bel (((((g9.out.trans b13H.out).trans b16H.out).trans b19H.out).trans b22H.out).trans g23.out))).at_ (i := 0) VP.out.1.1
 obtain ⟨r1, y1, l1, k1⟩ := ((FP.out.bel (((((g9.out.trans b13H.out).trans b16H.out).trans b19H.out).trans b22H.out).trans g23.out))).at_ (i := 1) VP.out.1.2.1
 obtain ⟨r2, y2, l2, k2⟩ := ((FP.out.bel (((((g9.out.trans b13H.out).trans b16H.out).trans b19H.out).trans b22H.out).trans g23.out))).at_ (i := 2) VP.out.1.2.2
 rw [VP.out.2.1] at k0
 rw [VP.out.2.2.1] at k1
 rw [VP.out.2.2.2] at k2
 obtain ⟨q1, m1, lq1, kq1⟩ := sure_two (P := Tryz.prog) 22 X.out.1 (x := I4 (2 * a)) (by rw [X.out.2, show 4 * a = 2 * (2 * a) by omega, I4_over (by omega)]) (I4_ok (by omega)).1
 obtain ⟨q2, m2, lq2, kq2⟩ := sure_add (P := Tryz.prog) 22 lq1 Y.out.1 (x := I4 (2 * a + 4 * b)) (by rw [kq1, Y.out.2, I4_add (by omega) (by omega)]) (I4_ok (by omega)).1
 obtain ⟨q3, m3, lq3, kq3⟩ := sure_two (P := Tryz.prog) 22 Z.out.1 (x := I4 (2 * c)) (by rw [Z.out.2, show 4 * c = 2 * (2 * c) by omega, I4_over (by omega)]) (I4_ok (by omega)).1
 obtain ⟨q4, m4, lq4, kq4⟩ := sure_add (P := Tryz.prog) 22 lq2 lq3 (x := I4 (2 * a + 4 * b + 2 * c)) (by rw [kq2, kq3, I4_add (by omega) (by omega)]) (I4_ok (by omega)).1
 obtain ⟨q5, m5, lq5, kq5⟩ := sure_sub (P := Tryz.prog) 22 lq1 lq3 (x := I4 (2 * a - 2 * c)) (by rw [kq1, kq3, I4_sub (by omega) (by omega)]) (I4_ok (by omega)).1
 obtain ⟨q6, m6, lq6, kq6⟩ := sure_sub (P := Tryz.prog) 22 lq1 Y.out.1 (x := I4 (2 * a - 4 * b)) (by rw [kq1, Y.out.2, I4_sub (by omega) (by omega)]) (I4_ok (by omega)).1
 obtain ⟨q7, m7, lq7, kq7⟩ := sure_add (P := Tryz.prog) 22 lq6 lq3 (x := I4 (2 * a - 4 * b + 2 * c)) (by rw [kq6, kq3, I4_add (by omega) (by omega)]) (I4_ok (by omega)).1
 have n0 := eqB l0 lq4 (by rw [kq4]; exact (I4_ok (by omega)).1) (by rw [k0, kq4])
 have n1 := eqB l1 lq5 (by rw [kq5]; exact (I4_ok (by omega)).1) (by rw [k1, kq5])
 have n2 := eqB l2 lq7 (by rw [kq7]; exact (I4_ok (by omega)).1) (by rw [k2, kq7])
 obtain ⟨qq, mm, lqq, kqq⟩ := sure_mul (P := Tryz.prog) 22 two_ok.1 l0 (x := I4 (2 * (2 * a + 4 * b + 2 * c))) (by rw [two_ok.2.1, k0, fmul_comm', I4_two (by omega)]) (I4_ok (by omega)).1
 have NM := I4_ok (v := 2 * (2 * a + 4 * b + 2 * c)) (by omega)
 have FN := cn_fin (r := qq) (by rw [kqq]; exact NM.1)
 have EV := Ho.mk (show fv qq = wt by
  unfold fv; rw [← HWT.out, HUV.out.1, HUV.out.2, ← Int.add_mul]
  refine fv_c (n := 2 * b + (a + c)) 1072 _ _ ?_ (by decide)
  rw [FN.2, kqq, NM.2]; congr 1; omega)
 have PT := Ho.mk (fun w => dPt w lqq FN.1)
 have RX : Ho (In ((v24.alloc (.cells #[.float .f64 rx] 22)).drew) (.slice (some ⟨v24.heap.size, 0, none⟩) 1 1) [I4 (4 * a)]) := ⟨(lit1 (Blk.new v24 [.float .f64 rx] 22) X.out).bel (Bel.refl _).drew⟩
 have T2 := Ho.mk ((T1.out.bel (((b16H.out.trans b19H.out).trans b22H.out).trans g23.out)))
 have D5 := Ho.mk ((D4.out.bel g23.out))
 have BW := Ho.mk (((((((((b3H.out.trans g4.out).trans b8H.out).trans g9.out).trans b13H.out).trans b16H.out).trans b19H.out).trans b22H.out).trans g23.out))
 obtain ⟨zw0, zw1, zw2⟩ := (KW.out).c3
 have hfd : ∀ (v0 v1 v2 v3 v4 v5 : Value) (w : World), (Instr.field 42 (.agg #[v0, v1, v2, v3, v4, v5]) 0).run Tryz.prog w = .ok (.agg #[v0, v1, v2]) w := fun _ _ _ _ _ _ _ => by kernel_rfl
 clear lq1 kq1 lq2 kq2 lq3 kq3 lq4 kq4 lq5 kq5 lq6 kq6 lq7 kq7 lqq kqq l0 l1 l2 k0 k1 k2 FN NM KW D4 FP VP T1 X Y Z
 refine wp_region_held_drew (S := fun w' => Bel v24 w') (by kernel_rfl) (Bel.refl _).drew (fun hHeld => ?_)
 (try dsimp only at hHeld)
 refine rt (i := 0) hHeld ?_
 refine rt (i := 1) hHeld ?_
 refine rt (i := 2) hHeld ?_
 refine rt (i := 3) hHeld ?_
 refine rt (i := 4) hHeld ?_
 refine rt (i := 5) hHeld ?_
 refine rt (i := 6) hHeld ?_
 refine rt (i := 7) hHeld ?_
 refine rt (i := 8) hHeld ?_
 refine rt (i := 9) hHeld ?_
 refine rt (i := 10) hHeld ?_
 refine rt (i := 11) hHeld ?_
 refine rt (i := 12) hHeld ?_
 refine rt (i := 13) hHeld ?_
 refine rt (i := 14) hHeld ?_
 refine rt (i := 15) hHeld ?_
 refine rt (i := 16) hHeld ?_
 try simp only [Act.put, Ow.zS, Ow.zC, Ow.zD]
 refine rc (i := 17) (fun K hK => ?_)
 go_simp
 refine hK.out _ _ (Bel.trans hHeld ((Bel.refl _).alloc _)) (fun hHeld => ?_)
 clear hK K
 try simp only [Act.put, Ow.zS, Ow.zC, Ow.zD]
 refine rc (i := 18) (fun K hK => ?_)
 go_simp
 go_at_call 20
 (with_reducible refine (pSameRow (z := true) (T2.out.bel hHeld) RX.out (by rw [LZ1.out]; decide) (by simp) (by rw [EZ1.out]; simp)).mono ?_); rintro e w8 ⟨rfl, b8⟩
 try go_wp2_with fail
 refine hK.out _ _ (Bel.trans hHeld b8) (fun hHeld => ?_)
 clear hK K
 refine rt (i := 19) hHeld ?_
 refine rt (i := 20) hHeld ?_
 refine rt (i := 21) hHeld ?_
 refine rt (i := 22) hHeld ?_
 refine rl (i := 23) (v := ?_) hHeld (fun w' hSw => ?_) ?_
 rotate_left
 ·(have z0 := hSw.cell y0; go_simp; try (with_reducible rfl))
 refine rt (i := 24) hHeld ?_
 refine rt (i := 25) hHeld ?_
 refine rt (i := 26) hHeld ?_
 refine rt (i := 27) hHeld ?_
 refine rt (i := 28) hHeld ?_
 refine rt (i := 29) hHeld ?_
 refine rt (i := 30) hHeld ?_
 refine rt (i := 31) hHeld ?_
 refine rt (i := 32) hHeld ?_
 refine rt (i := 33) hHeld ?_
 refine rt (i := 34) hHeld ?_
 refine rt (i := 35) hHeld ?_
 refine rl (i := 36) (v := ?_) hHeld (fun w' hSw => ?_) ?_
 rotate_left
 ·(have z0 := hSw.cell y1; go_simp; try (with_reducible rfl))
 refine rt (i := 37) hHeld ?_
 refine rt (i := 38) hHeld ?_
 refine rt (i := 39) hHeld ?_
 refine rt (i := 40) hHeld ?_
 refine rt (i := 41) hHeld ?_
 refine rt (i := 42) hHeld ?_
 refine rt (i := 43) hHeld ?_
 refine rt (i := 44) hHeld ?_
 refine rt (i := 45) hHeld ?_
 refine rt (i := 46) hHeld ?_
 refine rl (i := 47) (v := ?_) hHeld (fun w' hSw => ?_) ?_
 rotate_left
 ·(have z0 := hSw.cell y2; go_simp; try (with_reducible rfl))
 refine rt (i := 48) hHeld ?_
 refine rt (i := 49) hHeld ?_
 refine rt (i := 50) hHeld ?_
 refine rt (i := 51) hHeld ?_
 refine rt (i := 52) hHeld ?_
 refine rt (i := 53) hHeld ?_
 refine rt (i := 54) hHeld ?_
 refine rt (i := 55) hHeld ?_
 refine rt (i := 56) hHeld ?_
 refine rt (i := 57) hHeld ?_
 refine rt (i := 58) hHeld ?_
 refine rt (i := 59) hHeld ?_
 refine rl (i := 60) (v := ?_) hHeld (fun w' hSw => ?_) ?_
 rotate_left
 ·(have z0 := hSw.cell y0; go_simp; try (with_reducible rfl))
 refine rt (i := 61) hHeld ?_
 refine rl (i := 64) (v := ?_) hHeld (fun w' hSw => ?_) ?_
 rotate_left
 ·(have z0 := hSw.cell zw0; have z1 := hSw.cell zw1; have z2 := hSw.cell zw2; go_simp; try (with_reducible rfl))
 try simp only [Act.put, Ow.zS, Ow.zC, Ow.zD]
 refine rc (i := 62) (fun K hK => ?_)
 go_simp
 go_at_call 28
 (with_reducible refine (PT.out _).mono ?_); rintro e w9 ⟨A5, c5, B5, d5, rfl, p1, _, b9⟩
 try go_wp2_with fail
 refine hK.out _ _ (Bel.trans hHeld b9) (fun hHeld => ?_)
 clear hK K
 refine rt (i := 63) hHeld ?_
 try simp only [Act.put, Ow.zS, Ow.zC, Ow.zD]
 refine rc (i := 65) (fun K hK => ?_)
 go_simp
 go_at_call 27
 (with_reducible refine (F1.same p1 (D5.out.bel hHeld) EV.out).mono ?_); rintro e w10 ⟨rfl, b10⟩
 try go_wp2_with fail
 refine hK.out _ _ (Bel.trans hHeld b10) (fun hHeld => ?_)
 clear hK K
 refine rt (i := 66) hHeld ?_
 refine rt (i := 67) hHeld ?_
 try simp only [Act.put, Ow.zS, Ow.zC, Ow.zD]
 refine wpAnyH_done (by kernel_rfl) ?_ _
 have QB := Ho.mk (BW.out.trans hHeld)
 clear hHeld
 go_wp2
 go_ret
 exact ⟨rfl, QB.out⟩
theorem small18_door (a b c : Int) (w : World) (T : Tab w) (ha : -32768 ≤ a ∧ a ≤ 32767) (hb : -32768 ≤ b ∧ b ≤ 32767) (hc : -32768 ≤ c ∧ c ≤ 32767) :
  Calls Tryz.prog 6 #[.int .i16 a, .int .i16 b, .int .i16 c] w (fun e w' => e = .returned (.bool true) ∧ Bel w w') := small18 w T ha hb hc
end Lp
end Go.Proofs.YtalbgklfhabnkaaGreatDoor
