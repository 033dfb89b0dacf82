/-
  Joined, of what this claim leans on: T1, C3, I6, C4, I7, V2, C5, Nd, GB, W0, U0, U1.
-/
import Derived.Deep.RegionHeld3
import Derived.Deep.DrawnRows
import Derived.RegionIn
import Derived.RangeFuncNested
import Derived.RangeFuncBound
import Derived.RangeFuncCalls
import Derived.RangeFuncLeaves
import Derived.RangeFuncBox
import Derived.Shelf.Abstract
import Derived.Shelf.RegionOpen
import Derived.OwnWalkIn
import Derived.TacticsInMore
import Derived.LoopNIn
import Derived.LoopIn
import Derived.BigQuiet
import Derived.Test.YtnbdoidccacdnaaGreatDoorJRfftScale3
set_option linter.unusedVariables false
set_option linter.unusedSimpArgs false
set_option maxRecDepth 100000
set_option maxHeartbeats 16000000
namespace Go.Proofs.YtnbdoidccacdnaaGreatDoor
namespace T1
open Ieee Go Go.RowKit Ow Pl Dp Gp Gq F1 T0
noncomputable def hnext (w : Nat) (p : Pe) : Pe := (xhalf (xadd xone p.1) w, xhalf (xadd xone (xflip p.1)) w)
noncomputable def hrun (w : Nat) : Nat → Pe → List Pe
 | 0, _ => []
 | n + 1, p => p :: hrun w n (hnext w p)
def okE (x : E3) : Bool := x.m == 0 || (x.m % 2 == 1 && (decide (-400 ≤ x.e) && (decide (x.e + blen x.m ≤ 3) && decide (x.e ≤ 0))))
def lgE (x : E3) : Bool := x.m == 0 || (x.m % 2 == 1 && decide (16777216 ≤ x.m))
def okPe (p : Pe) : Bool := okE p.1.1 && (okE p.1.2 && (okE p.2.1 && okE p.2.2))
def lgPe (p : Pe) : Bool := lgE p.1.1 && (lgE p.1.2 && (lgE p.2.1 && lgE p.2.2))
def rnext (k Q w j : Nat) (p h : Pe) : Pe := if k / 2 ^ (Q - (3 + j)) % 2 = 1 then xturned p h w else p
def xrest (k Q w : Nat) : List Pe → Nat → Pe → Pe
 | [], _, p => p
 | h :: t, j, p => xrest k Q w t (j + 1) (rnext k Q w j p h)
def xrestOk (k Q w : Nat) : List Pe → Nat → Pe → Bool
 | [], _, p => okPe p
 | h :: t, j, p => okPe p && ((if k / 2 ^ (Q - (3 + j)) % 2 = 1 then lgPe (rnext k Q w j p h) else true) && xrestOk k Q w t (j + 1) (rnext k Q w j p h))
def zeroP : Pe := (xone, (⟨false, 0, 0⟩, ⟨false, 0, 0⟩))
def progOk (Q w k cw sw : Nat) (hl : List Pe) : Bool :=
 let p := xrest k Q w hl 0 zeroP
 let c := xends p.1 110
 let s := xends p.2 110
 xrestOk k Q w hl 0 zeroP && (xknown p.1 110 && (xknown p.2 110 && (ew c.1 == cw && (ew c.2 == cw && (ew s.1 == sw && (ew s.2 == sw && (okE c.1 && (okE c.2 && (okE s.1 && okE s.2)))))))))
def refOk (Q k cw sw : Nat) (hl : List Pe) : Bool :=
 let p := xrest k Q 160 hl 0 zeroP
 xrestOk k Q 160 hl 0 zeroP && (ew p.1.1 == cw && (ew p.1.2 == cw && (ew p.2.1 == sw && ew p.2.2 == sw)))
noncomputable def sgPe (p : Pe) : Bool := !((xshift (xadd xone p.1) (-1)).1.n || (xshift (xadd xone (xflip p.1)) (-1)).1.n)
noncomputable def allPe (p : Pe) : Bool := okPe p && (lgPe p && sgPe p)
noncomputable def rowOk (Q : Nat) (l : List (Nat × Nat × Nat)) : Bool :=
 let w := 150 + 2 * Q
 let hx := hrun w (Q - 2 + 1) (xhalf xone w, xhalf xone w)
 let hl := hx.take (Q - 2)
 let h2 := hrun 160 (Q - 2) (xhalf xone 160, xhalf xone 160)
 hx.all allPe && (h2.all allPe && l.all fun x => progOk Q w x.1 x.2.1 x.2.2 hl && refOk Q x.1 x.2.1 x.2.2 h2)
structure OkV (v : Int) : Prop where
 wd : Wd v 400 3
 e0 : de v ≤ 0
structure OkP (p : Pt) : Prop where
 cl : OkV p.1.1
 ch : OkV p.1.2
 sl : OkV p.2.1
 sh : OkV p.2.2
def LgV (v : Int) : Prop := v = 0 ∨ 2 ≤ (digs (dm v)).length
structure LgP (p : Pt) : Prop where
 cl : LgV p.1.1
 ch : LgV p.1.2
 sl : LgV p.2.1
 sh : LgV p.2.2
theorem okE_wd {x : E3} (h : okE x = true) : OkV x.v := by
 unfold okE at h
 simp only [Bool.or_eq_true, Bool.and_eq_true, beq_iff_eq, decide_eq_true_eq] at h
 rcases h with h | ⟨h1, h2, h3, h4⟩
 ·rw [zero_v h]; exact ⟨Wd.zero _ _, by rw [de_zero]; omega⟩
 ·refine ⟨wd_sc x.n (blen_lt x.m) h2 h3 (by unfold K; omega), ?_⟩
  have : de x.v = x.e := by
   unfold E3.v
   rw [sc_e (by omega) (by unfold K; omega), tz_odd h1]; omega
  omega
theorem lgE_v {x : E3} (h : lgE x = true) : LgV x.v := by
 unfold lgE at h
 simp only [Bool.or_eq_true, Bool.and_eq_true, beq_iff_eq, decide_eq_true_eq] at h
 rcases h with h | ⟨h1, h2⟩
 ·exact .inl (zero_v h)
 ·right
  have e : dm x.v = x.m := by unfold E3.v; rw [sc_m, odd_self h1]
  rw [e]
  rcases Nat.lt_or_ge (digs x.m).length 2 with q | q
  ·have := digs_len_le.1 (show (digs x.m).length ≤ 1 by omega)
   omega
  ·exact q
theorem lgPe_v {p : Pe} (h : lgPe p = true) : LgP (vp p) := by
 unfold lgPe at h
 simp only [Bool.and_eq_true] at h
 exact ⟨lgE_v h.1, lgE_v h.2.1, lgE_v h.2.2.1, lgE_v h.2.2.2⟩
theorem okPe_ok {p : Pe} (h : okPe p = true) : OkP (vp p) := by
 unfold okPe at h
 simp only [Bool.and_eq_true] at h
 exact ⟨okE_wd h.1, okE_wd h.2.1, okE_wd h.2.2.1, okE_wd h.2.2.2⟩
theorem hnext_e (w j : Nat) : hnext w (halvesE w j) = halvesE w (j + 1) := rfl
theorem hrun_get (w : Nat) : ∀ n j i, i < n → (hrun w n (halvesE w j))[i]? = some (halvesE w (j + i))
 | 0, _, _, h => absurd h (Nat.not_lt_zero _)
 | n + 1, j, 0, _ => rfl
 | n + 1, j, i + 1, h => by
  show (hrun w n (hnext w (halvesE w j)))[i]? = _
  rw [hnext_e, hrun_get w n (j + 1) i (by omega)]
  congr 2; omega
theorem rnext_v (k Q w j : Nat) (p : Pe) (h : vp p = restP k Q w j) : vp (rnext k Q w j p (halvesE w j)) = restP k Q w (j + 1) := by
 unfold rnext
 show _ = (if k / 2 ^ (Q - (3 + j)) % 2 = 1 then turned (restP k Q w j) (halvesP w j) w else restP k Q w j)
 split
 ·rw [xturned_v, h, halvesE_v]
 ·exact h
theorem zero_rest (k Q w : Nat) : vp zeroP = restP k Q w 0 := by
 show (vi xone, vi (⟨false, 0, 0⟩, ⟨false, 0, 0⟩)) = (one, (0, 0))
 rw [xone_v]
 have : (E3.mk false 0 0).v = 0 := zero_v rfl
 unfold vi; rw [this]
theorem xrest_v (k Q w : Nat) : ∀ n j p, vp p = restP k Q w j → vp (xrest k Q w (hrun w n (halvesE w j)) j p) = restP k Q w (j + n)
 | 0, j, p, h => h
 | n + 1, j, p, h => by
  show vp (xrest k Q w (hrun w n (hnext w (halvesE w j))) (j + 1) (rnext k Q w j p (halvesE w j))) = _
  rw [hnext_e, xrest_v k Q w n (j + 1) _ (rnext_v k Q w j p h)]
  congr 1; omega
theorem xrestOk_v (k Q w : Nat) : ∀ n j p, vp p = restP k Q w j → xrestOk k Q w (hrun w n (halvesE w j)) j p = true → (∀ i, i ≤ n → OkP (restP k Q w (j + i))) ∧ (∀ i, i < n → k / 2 ^ (Q - (3 + (j + i))) % 2 = 1 → LgP (restP k Q w (j + i + 1)))
 | 0, j, p, h, ho => ⟨fun i hi => by
   obtain rfl : i = 0 := by omega
   rw [Nat.add_zero, ← h]; exact okPe_ok ho, fun i hi => absurd hi (Nat.not_lt_zero _)⟩
 | n + 1, j, p, h, ho => by
  have ho' : (okPe p && ((if k / 2 ^ (Q - (3 + j)) % 2 = 1 then lgPe (rnext k Q w j p (halvesE w j)) else true) && xrestOk k Q w (hrun w n (hnext w (halvesE w j))) (j + 1) (rnext k Q w j p (halvesE w j)))) = true := ho
  simp only [Bool.and_eq_true] at ho'
  rw [hnext_e] at ho'
  obtain ⟨o1, o2, o3⟩ := ho'
  have hn := rnext_v k Q w j p h
  obtain ⟨q1, q2⟩ := xrestOk_v k Q w n (j + 1) _ hn o3
  constructor
  ·intro i hi
   cases i with
   | zero => rw [Nat.add_zero, ← h]; exact okPe_ok o1
   | succ i =>
    have := q1 i (by omega)
    rwa [show j + 1 + i = j + (i + 1) by omega] at this
  ·intro i hi hb
   cases i with
   | zero =>
    rw [Nat.add_zero] at hb ⊢
    rw [if_pos hb] at o2
    rw [← hn]; exact lgPe_v o2
   | succ i =>
    have := q2 i (by omega) (by rwa [show j + 1 + i = j + (i + 1) by omega])
    rwa [show j + 1 + i + 1 = j + (i + 1) + 1 by omega] at this
structure HvP (w j : Nat) : Prop where
 ok : OkP (halvesP w j)
 lg : LgP (halvesP w j)
 s1 : 0 ≤ sgn (ishift (iadd one (halvesP w j).1) (-1)).1
 s2 : 0 ≤ sgn (ishift (iadd one (iflip (halvesP w j).1)) (-1)).1
structure Entry (Q k cw sw : Nat) : Prop where
 hp : ∀ j, j < Q - 2 + 1 → HvP (150 + 2 * Q) j
 rp : ∀ j, j ≤ Q - 2 → OkP (restP k Q (150 + 2 * Q) j)
 rg : ∀ j, j < Q - 2 → k / 2 ^ (Q - (3 + j)) % 2 = 1 → LgP (restP k Q (150 + 2 * Q) (j + 1))
 kc : knownB (restP k Q (150 + 2 * Q) (Q - 2)).1 110 = true
 ks : knownB (restP k Q (150 + 2 * Q) (Q - 2)).2 110 = true
 cl : nw (endsV (restP k Q (150 + 2 * Q) (Q - 2)).1 110).1 = cw
 ch : nw (endsV (restP k Q (150 + 2 * Q) (Q - 2)).1 110).2 = cw
 sl : nw (endsV (restP k Q (150 + 2 * Q) (Q - 2)).2 110).1 = sw
 sh : nw (endsV (restP k Q (150 + 2 * Q) (Q - 2)).2 110).2 = sw
 oc1 : OkV (endsV (restP k Q (150 + 2 * Q) (Q - 2)).1 110).1
 oc2 : OkV (endsV (restP k Q (150 + 2 * Q) (Q - 2)).1 110).2
 os1 : OkV (endsV (restP k Q (150 + 2 * Q) (Q - 2)).2 110).1
 os2 : OkV (endsV (restP k Q (150 + 2 * Q) (Q - 2)).2 110).2
 hr : ∀ j, j < Q - 2 → HvP 160 j
 rr : ∀ j, j ≤ Q - 2 → OkP (restP k Q 160 j)
 rrg : ∀ j, j < Q - 2 → k / 2 ^ (Q - (3 + j)) % 2 = 1 → LgP (restP k Q 160 (j + 1))
 rcl : nw (restP k Q 160 (Q - 2)).1.1 = cw
 rch : nw (restP k Q 160 (Q - 2)).1.2 = cw
 rsl : nw (restP k Q 160 (Q - 2)).2.1 = sw
 rsh : nw (restP k Q 160 (Q - 2)).2.2 = sw
theorem sg_v {x : E3} (h : x.n = false) : 0 ≤ sgn x.v := by
 by_cases h0 : x.m = 0
 ·rw [zero_v h0]; decide
 ·have hn : dneg x.v = x.n := sc_neg h0
  rw [h] at hn
  unfold dneg at hn
  have := of_decide_eq_false hn
  unfold sgn
  rw [cmpI_gt (by have : x.v ≠ 0 := sc_ne h0; omega)]; decide
theorem take_hrun (w : Nat) : ∀ n p, (hrun w (n + 1) p).take n = hrun w n p
 | 0, _ => rfl
 | n + 1, p => by
  show p :: (hrun w (n + 1) (hnext w p)).take n = p :: hrun w n (hnext w p)
  rw [take_hrun w n]
theorem all_get {w n : Nat} (h : (hrun w n (halvesE w 0)).all allPe = true) : ∀ j, j < n → HvP w j := fun j hj => by
 have e := hrun_get w n 0 j hj
 rw [Nat.zero_add] at e
 have := List.all_eq_true.1 h _ (List.mem_of_getElem? e)
 unfold allPe sgPe at this
 simp only [Bool.and_eq_true, Bool.not_eq_true', Bool.or_eq_false_iff] at this
 obtain ⟨h1, h2, h3, h4⟩ := this
 have hv := halvesE_v w j
 have e1 : (halvesP w j).1 = vi (halvesE w j).1 := by rw [← hv]; rfl
 refine ⟨by rw [← hv]; exact okPe_ok h1, by rw [← hv]; exact lgPe_v h2, ?_, ?_⟩
 ·rw [e1, ← xone_v, ← xadd_v, ← xshift_v]; exact sg_v h3
 ·rw [e1, ← xone_v, ← xflip_v, ← xadd_v, ← xshift_v]; exact sg_v h4
theorem row_entry {Q : Nat} {l : List (Nat × Nat × Nat)} (h : rowOk Q l = true) {k cw sw : Nat} (hm : (k, cw, sw) ∈ l) : Entry Q k cw sw := by
 unfold rowOk at h
 dsimp only at h
 rw [show (xhalf xone (150 + 2 * Q), xhalf xone (150 + 2 * Q)) = halvesE (150 + 2 * Q) 0 from rfl, show (xhalf xone 160, xhalf xone 160) = halvesE 160 0 from rfl] at h
 simp only [Bool.and_eq_true] at h
 rw [take_hrun] at h
 obtain ⟨h1, h2, h3⟩ := h
 have h4 := List.all_eq_true.1 h3 _ hm
 dsimp only at h4
 rw [Bool.and_eq_true] at h4
 obtain ⟨p, r⟩ := h4
 unfold progOk at p
 unfold refOk at r
 dsimp only at p r
 simp only [Bool.and_eq_true, beq_iff_eq, xknown_v, ew_v] at p r
 have e1 := xrest_v k Q (150 + 2 * Q) (Q - 2) 0 zeroP (zero_rest _ _ _)
 have e2 := xrest_v k Q 160 (Q - 2) 0 zeroP (zero_rest _ _ _)
 rw [Nat.zero_add] at e1 e2
 obtain ⟨p1, p2, p3, p4, p5, p6, p7, p8, p9, pa, pb⟩ := p
 obtain ⟨r1, r2, r3, r4, r5⟩ := r
 obtain ⟨f1, g1⟩ := xrestOk_v k Q (150 + 2 * Q) (Q - 2) 0 zeroP (zero_rest _ _ _) p1
 obtain ⟨f2, g2⟩ := xrestOk_v k Q 160 (Q - 2) 0 zeroP (zero_rest _ _ _) r1
 simp only [Nat.zero_add] at f1 f2 g1 g2
 generalize xrest k Q (150 + 2 * Q) (hrun (150 + 2 * Q) (Q - 2) (halvesE (150 + 2 * Q) 0)) 0 zeroP = P at *
 generalize xrest k Q 160 (hrun 160 (Q - 2) (halvesE 160 0)) 0 zeroP = R at *
 have c1 : (endsV (restP k Q (150 + 2 * Q) (Q - 2)).1 110) = vi (xends P.1 110) := by rw [xends_v, ← e1]; rfl
 have c2 : (endsV (restP k Q (150 + 2 * Q) (Q - 2)).2 110) = vi (xends P.2 110) := by rw [xends_v, ← e1]; rfl
 refine ⟨all_get h1, f1, g1, ?_, ?_, ?_, ?_, ?_, ?_, ?_, ?_, ?_, ?_, all_get h2, f2, g2, ?_, ?_, ?_, ?_⟩
 ·rw [← e1]; exact p2
 ·rw [← e1]; exact p3
 ·rw [c1]; exact p4
 ·rw [c1]; exact p5
 ·rw [c2]; exact p6
 ·rw [c2]; exact p7
 ·rw [c1]; exact okE_wd p8
 ·rw [c1]; exact okE_wd p9
 ·rw [c2]; exact okE_wd pa
 ·rw [c2]; exact okE_wd pb
 ·rw [← e2]; exact r2
 ·rw [← e2]; exact r3
 ·rw [← e2]; exact r4
 ·rw [← e2]; exact r5
def row0 : List (Nat × Nat × Nat) := [(0, 4607182418800017408, 0)]
theorem row0_ok : rowOk 0 row0 = true := by decide +kernel
def row3 : List (Nat × Nat × Nat) := [(1, 4604544271217802189, 4604544271217802189)]
theorem row3_ok : rowOk 3 row3 = true := by decide +kernel
def row4 : List (Nat × Nat × Nat) := [(1, 4606496786581982534, 4600565431771507043)]
theorem row4_ok : rowOk 4 row4 = true := by decide +kernel
def row5 : List (Nat × Nat × Nat) := [(1, 4607009347991985328, 4596196889902818827), (3, 4605664432017547683, 4603179351334086856)]
theorem row5_ok : rowOk 5 row5 = true := by decide +kernel
def row6 : List (Nat × Nat × Nat) := [(1, 4607139046673687846, 4591727299969791020), (3, 4606794571824115162, 4598900923775164166), (5, 4606118860100255153, 4602163548591158843), (7, 4605137878724712257, 4603889326261607894)]
theorem row6_ok : rowOk 6 row6 = true := by decide +kernel
def row7 : List (Nat × Nat × Nat) := [(1, 4607171569234046334, 4587232218149935124), (3, 4607084929468638487, 4594454542771183930), (5, 4606912484326125783, 4597922303871901467), (7, 4606655894547498725, 4599740487990714333), (9, 4606317631232591731, 4601373767755717824), (11, 4605900952042040894, 4602805845399633902), (13, 4605409869824231233, 4603540801876750389), (15, 4604849113969373103, 4604224084862889120)]
theorem row7_ok : rowOk 7 row7 = true := by decide +kernel
def row8 : List (Nat × Nat × Nat) := [(1, 4607179706000002317, 4582730748936808062), (3, 4607158013403433018, 4589965306122607094), (5, 4607114680469659603, 4593485039402578702), (7, 4607049811591515049, 4595327571478659014), (9, 4606963563043808649, 4597061974398750563), (11, 4606856142606846307, 4598476289818621559), (13, 4606727809065869586, 4599322407794599425), (15, 4606578871587619388, 4600154912527631775), (17, 4606409688975526202, 4600971798440897930), (19, 4606220668805321205, 4601771097584682078), (21, 4606012266443150634, 4602550884377336506), (23, 4605784983948558848, 4602994049708411683), (25, 4605539368864982914, 4603361638657888991), (27, 4605276012900672507, 4603716733069447353), (29, 4604995550503212910, 4604058477489546729), (31, 4604698657331085206, 4604386048625945823)]
theorem row8_ok : rowOk 8 row8 = true := by decide +kernel
def row9 : List (Nat × Nat × Nat) := [(1, 4607181740574479067, 4578227681973159812), (3, 4607176315382986589, 4585465300892538317), (5, 4607165468267934125, 4588998070480937184), (7, 4607149205763218185, 4590846768565625881), (9, 4607127537664763515, 4592606767730311893), (11, 4607100477024622401, 4594016801320007031), (13, 4607068040143112603, 4594891488091520602), (15, 4607030246558998647, 4595762727260045105), (17, 4606987119037722413, 4596629994023683153), (19, 4606938683557690074, 4597492765973365521), (21, 4606884969294623682, 4598262871476403630), (23, 4606826008603986804, 4598688984595225406), (25, 4606761837001494797, 4599112075441176914), (27, 4606692493141721470, 4599531889160152938), (29, 4606618018794815019, 4599948172872067014), (31, 4606538458821337243, 4600360675823176935), (33, 4606453861145241227, 4600769149537129431), (35, 4606364276725003740, 4601173347964633034), (37, 4606269759522929756, 4601573027631668967), (39, 4606170366472647579, 4601967947786150793), (41, 4606066157444814153, 4602357870542944470), (43, 4605957195211051218, 4602710690099904183), (45, 4605843545406134034, 4602900303344142735), (47, 4605725276488455441, 4603087070374583113), (49, 4605602459698789090, 4603270878689749849), (51, 4605475169017376660, 4603451617570386922), (53, 4605343481119364930, 4603629178146150899), (55, 4605207475328619533, 4603803453461190356), (57, 4605067233569943231, 4603974338538572089), (59, 4604922840319727473, 4604141730443515286), (61, 4604774382555066977, 4604305528345395596), (63, 4604621949701367983, 4604465633578481725)]
theorem row9_ok : rowOk 9 row9 = true := by decide +kernel
def rowAt (Q : Nat) : List (Nat × Nat × Nat) := match Q with
 | 0 => row0
 | 3 => row3
 | 4 => row4
 | 5 => row5
 | 6 => row6
 | 7 => row7
 | 8 => row8
 | 9 => row9
 | _ => []
theorem rowAt_ok (Q : Nat) {k cw sw : Nat} (hm : (k, cw, sw) ∈ rowAt Q) : Entry Q k cw sw := by
 match Q, hm with
 | 0, hm => exact row_entry row0_ok hm
 | 3, hm => exact row_entry row3_ok hm
 | 4, hm => exact row_entry row4_ok hm
 | 5, hm => exact row_entry row5_ok hm
 | 6, hm => exact row_entry row6_ok hm
 | 7, hm => exact row_entry row7_ok hm
 | 8, hm => exact row_entry row8_ok hm
 | 9, hm => exact row_entry row9_ok hm
 | 1, hm => cases hm
 | 2, hm => cases hm
 | n + 10, hm => cases hm
end T1
namespace C3
open Go Go.RowKit Go.Proofs.YtnbdoidccacdnaaGreatDoor Ow Pl Dp Dt D3 F1 T0 I0 T1 C0 C1
theorem okV_low {v : Int} (h : OkV v) : -(400 : Int) ≤ de v := by
 rcases h.wd.low with e | e
 ·rw [e, de_zero]; decide
 ·omega
theorem ok_neg {u v : Int} (h : OkV u) (k : OkV v) : de (mulD u v) ≤ 0 :=
 de_mulD h.wd k.wd (by decide) h.e0 k.e0 (by have := okV_low h; have := okV_low k; simp only [K]; omega)
theorem ok_prods {a b : Iv} (h1 : OkV a.1) (h2 : OkV a.2) (k1 : OkV b.1) (k2 : OkV b.2) : ∀ z ∈ J1.prods a b, de z ≤ 0 := fun z hz => by
 simp [J1.prods] at hz
 rcases hz with rfl | rfl | rfl | rfl
 ·exact ok_neg h1 k1
 ·exact ok_neg h1 k2
 ·exact ok_neg h2 k1
 ·exact ok_neg h2 k2
theorem dTurned {A0 B0 C0 D0 : Option Addr} {a0 b0 c0 d0 : Nat} {A1 B1 C1 D1 : Option Addr} {a1 b1 c1 d1 : Nat} {p q : Pt} {n : Nat} {nn : Int} (w : World) (T : Tab w)
  (h0 : Dv w A0 a0 p.1.1 400 3) (h1 : Dv w B0 b0 p.1.2 400 3) (h2 : Dv w C0 c0 p.2.1 400 3) (h3 : Dv w D0 d0 p.2.2 400 3)
  (k0 : Dv w A1 a1 q.1.1 400 3) (k1 : Dv w B1 b1 q.1.2 400 3) (k2 : Dv w C1 c1 q.2.1 400 3) (k3 : Dv w D1 d1 q.2.2 400 3)
  (hn : n ≤ 3000) (hnn : (n : Int) = nn) (op : OkP p) (oq : OkP q) (or : OkP (turned p q n)) :
  Calls Tryz.prog 231 #[.agg #[.bool (dneg p.1.1), .slice A0 (digs (dm p.1.1)).length a0, .int .i64 (de p.1.1), .bool (dneg p.1.2), .slice B0 (digs (dm p.1.2)).length b0, .int .i64 (de p.1.2), .bool (dneg p.2.1), .slice C0 (digs (dm p.2.1)).length c0, .int .i64 (de p.2.1), .bool (dneg p.2.2), .slice D0 (digs (dm p.2.2)).length d0, .int .i64 (de p.2.2)],
   .agg #[.bool (dneg q.1.1), .slice A1 (digs (dm q.1.1)).length a1, .int .i64 (de q.1.1), .bool (dneg q.1.2), .slice B1 (digs (dm q.1.2)).length b1, .int .i64 (de q.1.2), .bool (dneg q.2.1), .slice C1 (digs (dm q.2.1)).length c1, .int .i64 (de q.2.1), .bool (dneg q.2.2), .slice D1 (digs (dm q.2.2)).length d1, .int .i64 (de q.2.2)], .int .i64 nn] w (MakesP w (turned p q n) 400 3) :=
 dTurned0 w T h0 h1 h2 h3 k0 k1 k2 k3 hn hnn (ok_prods op.cl op.ch oq.cl oq.ch) (ok_prods op.sl op.sh oq.sl oq.sh) (ok_prods op.sl op.sh oq.cl oq.ch) (ok_prods op.cl op.ch oq.sl oq.sh) rfl rfl rfl rfl or.cl.wd or.ch.wd or.sl.wd or.sh.wd
end C3
namespace I6
open Go Go.RowKit Go.Proofs.YtnbdoidccacdnaaGreatDoor I0
section
variable {P : Program} {ops : Array Oper} {Q : Exit → Act → World → Prop} {md : Region.Mode} {S : World → Prop}
theorem rc2 {i j : Nat} {o o' : Oper} {rest rest' : List Oper} {fuel : Nat} {listed : Array Bool} {a : Act} {w : World}
  (h : ∀ K' : Act → World → Prop, Shut (∀ a w, S w → (S w → wpAnyH P md ops Q S fuel (listed.setIfInBounds i true) a w) → K' a w) → Oper.wp P o a w K' Q)
  (h' : ∀ K' : Act → World → Prop, Shut (∀ a w, S w → (S w → wpAnyH P md ops Q S fuel (listed.setIfInBounds j true) a w) → K' a w) → Oper.wp P o' a w K' Q)
  (hr : Region.ready md ops listed = [i, j] := by kernel_rfl) (hi : ops.toList.drop i = o :: rest := by rfl) (hj : ops.toList.drop j = o' :: rest' := by rfl)
  (hw : Region.wanted o (yielded ops a.tmps) = true := by kernel_rfl) (hw' : Region.wanted o' (yielded ops a.tmps) = true := by kernel_rfl) : wpAnyH P md ops Q S (fuel + 1) listed a w :=
 wpAnyH_ready hr (by simp) (AllReadyH.cons (ops_at hi) (fun K' hK => by rw [if_pos hw]; exact h K' hK) (AllReadyH.cons (ops_at hj) (fun K' hK => by rw [if_pos hw']; exact h' K' hK) AllReadyH.nil))
end
end I6
namespace C4
open Go Go.RowKit Go.Proofs.YtnbdoidccacdnaaGreatDoor Ow Pl Dp Dt D3 F1 T0 I0 C0
attribute [local go_sem ↓] Go.wp_at_zero Go.wp_at_succ
theorem dHalf {A0 B0 : Option Addr} {c0 d0 : Nat} {a r : Iv} {L0 U0 L U bw n : Nat} {nn : Int} (w : World) (T : Tab w) (p0l : Dv w A0 c0 a.1 L0 U0) (p0h : Dv w B0 d0 a.2 L0 U0) (hL : L0 ≤ 2000) (hU : U0 ≤ 2000)
  (KWn : Blk w bw 3 [.int .i64 nn]) (hn : n ≤ 3000) (hnn : (n : Int) = nn) (hs : 0 ≤ sgn (ishift a (-1)).1) (R0 : rootV (ishift a (-1)).1 n false = r.1) (W0 : Wd r.1 L U) (R1 : rootV (ishift a (-1)).2 n true = r.2) (W1 : Wd r.2 L U) :
  Calls Tryz.prog 243 #[.agg #[.bool (dneg a.1), .slice A0 (digs (dm a.1)).length c0, .int .i64 (de a.1), .bool (dneg a.2), .slice B0 (digs (dm a.2)).length d0, .int .i64 (de a.2)], .pointer (some ⟨bw, 0, none⟩)] w (MakesI w r L U) := by
 have HS0 := Ho.mk hs
 have HR0 := Ho.mk R0
 have HR1 := Ho.mk R1
 have HW0 := Ho.mk W0
 have HW1 := Ho.mk W1
 have g0 := ((Bel.refl w).alloc (.cells #[.bool (dneg a.1), .slice A0 (digs (dm a.1)).length c0, .int .i64 (de a.1), .bool (dneg a.2), .slice B0 (digs (dm a.2)).length d0, .int .i64 (de a.2)] 42)).alloc (.cells #[.bool false, .slice none 0 0, .int .i64 0, .bool false, .slice none 0 0, .int .i64 0] 42)
 have TW := Ho.mk (T.bel g0)
 have PL := Ho.mk (p0l.bel g0)
 have PH := Ho.mk (p0h.bel g0)
 have KW := Ho.mk (KWn.bel g0)
 have KB := Ho.mk ((Blk.new w [.bool (dneg a.1), .slice A0 (digs (dm a.1)).length c0, .int .i64 (de a.1), .bool (dneg a.2), .slice B0 (digs (dm a.2)).length d0, .int .i64 (de a.2)] 42).old (.cells #[.bool false, .slice none 0 0, .int .i64 0, .bool false, .slice none 0 0, .int .i64 0] 42))
 have KR := Ho.mk (Blk.new (w.alloc (.cells #[.bool (dneg a.1), .slice A0 (digs (dm a.1)).length c0, .int .i64 (de a.1), .bool (dneg a.2), .slice B0 (digs (dm a.2)).length d0, .int .i64 (de a.2)] 42)) [.bool false, .slice none 0 0, .int .i64 0, .bool false, .slice none 0 0, .int .i64 0] 42)
 rw [World.size_alloc] at KR
 have G0 := Ho.mk g0
 have ws : (( w.alloc (.cells #[.bool (dneg a.1), .slice A0 (digs (dm a.1)).length c0, .int .i64 (de a.1), .bool (dneg a.2), .slice B0 (digs (dm a.2)).length d0, .int .i64 (de a.2)] 42)).alloc (.cells #[.bool false, .slice none 0 0, .int .i64 0, .bool false, .slice none 0 0, .int .i64 0] 42)).heap.size = w.heap.size + 2 := by simp only [World.size_alloc]
 clear T p0l p0h KWn hs R0 W0 R1 W1 g0
 go_enter Tryz.func243, Tryz.ntmps243
 go_wp2_with fail
 generalize (w.alloc (.cells #[.bool (dneg a.1), .slice A0 (digs (dm a.1)).length c0, .int .i64 (de a.1), .bool (dneg a.2), .slice B0 (digs (dm a.2)).length d0, .int .i64 (de a.2)] 42)).alloc (.cells #[.bool false, .slice none 0 0, .int .i64 0, .bool false, .slice none 0 0, .int .i64 0] 42) = W at *
 have WS := Ho.mk ws
 clear ws
 have yb0 := KB.out.cell (i := 0) rfl
 have yb1 := KB.out.cell (i := 1) rfl
 have yb2 := KB.out.cell (i := 2) rfl
 have yb3 := KB.out.cell (i := 3) rfl
 have yb4 := KB.out.cell (i := 4) rfl
 have yb5 := KB.out.cell (i := 5) rfl
 have yw := KW.out.cell (i := 0) rfl
 refine wp_region_held_drew (S := fun w' => Bel W w') (by kernel_rfl) (Bel.refl _).drew (fun hHeld => ?_)
 (try dsimp only at hHeld)
 refine rl (i := 0) (v := ?_) hHeld (fun w hSw => ?_) ?_
 rotate_left
 ·(have z0 := hSw.cell yb0; have z1 := hSw.cell yb1; have z2 := hSw.cell yb2; have z3 := hSw.cell yb3; have z4 := hSw.cell yb4; have z5 := hSw.cell yb5; go_simp; try (with_reducible rfl))
 refine rl (i := 2) (v := ?_) hHeld (fun w hSw => ?_) ?_
 rotate_left
 ·(have z0 := hSw.cell yw; go_simp; try (with_reducible rfl))
 clear yb0 yb1 yb2 yb3 yb4 yb5 yw
 try simp only [Act.put, List.setIfInBounds_toArray, List.set_cons_zero, List.set_cons_succ]
 refine I6.rc2 (i := 1) (j := 7) (fun K hK => ?_) (fun K hK => ?_)
 ·go_simp
  go_at_call 245
  refine (I3.dShiftI (N := 1) _ (TW.out.bel ((Bel.refl W).drew)) (PL.out.bel ((Bel.refl W).drew)) (PH.out.bel ((Bel.refl W).drew)) (by omega) (by omega) (by omega) (by omega) (by omega)).mono ?_
  rintro e w1 ⟨A1, c1, B1, d1, rfl, n1, m1, b1⟩
  try go_wp2_with fail
  refine hK.out _ _ (Bel.trans hHeld b1) (fun hHeld => ?_)
  clear hK K
  try simp only [Act.put, List.setIfInBounds_toArray, List.set_cons_zero, List.set_cons_succ]
  refine I6.rc2 (i := 3) (j := 7) (fun K hK => ?_) (fun K hK => ?_)
  ·go_simp
   go_at_call 244
   refine (I3.dRootI (i := r) _ (TW.out.bel (((Bel.refl W).drew).trans b1)) (n1.bel (Bel.refl w1)) (m1.bel (Bel.refl w1)) (by omega) (by omega) hn hnn HS0.out HR0.out HW0.out HR1.out HW1.out).mono ?_
   rintro e w2 ⟨A2, c2, B2, d2, rfl, n2, m2, b2⟩
   try go_wp2_with fail
   refine hK.out _ _ (Bel.trans hHeld b2) (fun hHeld => ?_)
   clear hK K
   refine rt (i := 4) hHeld ?_
   refine rt (i := 5) hHeld ?_
   refine rt (i := 6) hHeld ?_
   try simp only [Act.put, List.setIfInBounds_toArray, List.set_cons_zero, List.set_cons_succ]
   refine rc (i := 7) (fun K hK => ?_)
   go_simp
   refine hK.out _ _ (Bel.alloc hHeld _) (fun hHeld => ?_)
   clear hK K
   have NB := Ho.mk (Bel.alloc (((((Bel.refl W).drew).trans b1).trans b2)) (.cells #[.bool (dneg r.1), .slice A2 (digs (dm r.1)).length c2, .int .i64 (de r.1), .bool (dneg r.2), .slice B2 (digs (dm r.2)).length d2, .int .i64 (de r.2)] 42))
   have KF := Ho.mk (Blk.new (w2) [.bool (dneg r.1), .slice A2 (digs (dm r.1)).length c2, .int .i64 (de r.1), .bool (dneg r.2), .slice B2 (digs (dm r.2)).length d2, .int .i64 (de r.2)] 42)
   have D0 := Ho.mk (n2.bel ((Bel.refl w2).alloc (.cells #[.bool (dneg r.1), .slice A2 (digs (dm r.1)).length c2, .int .i64 (de r.1), .bool (dneg r.2), .slice B2 (digs (dm r.2)).length d2, .int .i64 (de r.2)] 42)))
   have D1 := Ho.mk (m2.bel ((Bel.refl w2).alloc (.cells #[.bool (dneg r.1), .slice A2 (digs (dm r.1)).length c2, .int .i64 (de r.1), .bool (dneg r.2), .slice B2 (digs (dm r.2)).length d2, .int .i64 (de r.2)] 42)))
   clear n1 m1 n2 m2 hHeld
   try simp only [Act.put, List.setIfInBounds_toArray, List.set_cons_zero, List.set_cons_succ]
   refine rc (i := 8) (fun K hK => ?_)
   go_simp
   refine hK.out _ _ NB.out (fun hHeld => ?_)
   clear hK K
   refine rt (i := 9) hHeld ?_
   try simp only [Act.put, List.setIfInBounds_toArray, List.set_cons_zero, List.set_cons_succ]
   refine wpAnyH_done (by kernel_rfl) ?_ _
   generalize hwf : World.alloc (w2) (.cells #[.bool (dneg r.1), .slice A2 (digs (dm r.1)).length c2, .int .i64 (de r.1), .bool (dneg r.2), .slice B2 (digs (dm r.2)).length d2, .int .i64 (de r.2)] 42) = wf at *
   have HH := NB
   clear hHeld hwf
   have KR2 := Ho.mk (KR.out.bel HH.out)
   have y0 := KF.out.cell (i := 0) rfl
   have x0 := KR2.out.cell (i := 0) rfl
   have z0 := KR2.out.free 0
   have y1 := KF.out.cell (i := 1) rfl
   have x1 := KR2.out.cell (i := 1) rfl
   have z1 := KR2.out.free 1
   have y2 := KF.out.cell (i := 2) rfl
   have x2 := KR2.out.cell (i := 2) rfl
   have z2 := KR2.out.free 2
   have y3 := KF.out.cell (i := 3) rfl
   have x3 := KR2.out.cell (i := 3) rfl
   have z3 := KR2.out.free 3
   have y4 := KF.out.cell (i := 4) rfl
   have x4 := KR2.out.cell (i := 4) rfl
   have z4 := KR2.out.free 4
   have y5 := KF.out.cell (i := 5) rfl
   have x5 := KR2.out.cell (i := 5) rfl
   have z5 := KR2.out.free 5
   go_wp2
   exact I0.gives_endI (fn := Tryz.f243) rfl rfl (G0.out.trans HH.out) (by have := WS.out; omega) KR2.out D0.out D1.out
  ·go_simp
   refine hK.out _ _ (Bel.alloc hHeld _) (fun hHeld => ?_)
   clear hK K
   try simp only [Act.put, List.setIfInBounds_toArray, List.set_cons_zero, List.set_cons_succ]
   refine rc (i := 3) (fun K hK => ?_)
   go_simp
   go_at_call 244
   refine (I3.dRootI (i := r) _ (TW.out.bel ((((Bel.refl W).drew).trans b1).alloc (.cells #[.bool false, .slice none 0 0, .int .i64 0, .bool false, .slice none 0 0, .int .i64 0] 42))) (n1.bel ((Bel.refl w1).alloc (.cells #[.bool false, .slice none 0 0, .int .i64 0, .bool false, .slice none 0 0, .int .i64 0] 42))) (m1.bel ((Bel.refl w1).alloc (.cells #[.bool false, .slice none 0 0, .int .i64 0, .bool false, .slice none 0 0, .int .i64 0] 42))) (by omega) (by omega) hn hnn HS0.out HR0.out HW0.out HR1.out HW1.out).mono ?_
   rintro e w2 ⟨A2, c2, B2, d2, rfl, n2, m2, b2⟩
   try go_wp2_with fail
   refine hK.out _ _ (Bel.trans hHeld b2) (fun hHeld => ?_)
   clear hK K
   refine rt (i := 4) hHeld ?_
   refine rt (i := 5) hHeld ?_
   refine rt (i := 6) hHeld ?_
   have b4le : W.heap.size ≤ (w1).heap.size := (((Bel.refl W).drew).trans b1).size
   have K4 := Ho.mk (show Blk (w2) (w1).heap.size 42 [.bool false, .slice none 0 0, .int .i64 0, .bool false, .slice none 0 0, .int .i64 0] from (Blk.new (w1) [.bool false, .slice none 0 0, .int .i64 0, .bool false, .slice none 0 0, .int .i64 0] 42).bel ((Bel.refl (w1.alloc (.cells #[.bool false, .slice none 0 0, .int .i64 0, .bool false, .slice none 0 0, .int .i64 0] 42))).trans b2))
   have Q0 := Ho.mk (n2.bel (Bel.refl w2))
   have Q1 := Ho.mk (m2.bel (Bel.refl w2))
   have y0 := K4.out.cell (i := 0) rfl
   have z0 := K4.out.free 0
   have y1 := K4.out.cell (i := 1) rfl
   have z1 := K4.out.free 1
   have y2 := K4.out.cell (i := 2) rfl
   have z2 := K4.out.free 2
   have y3 := K4.out.cell (i := 3) rfl
   have z3 := K4.out.free 3
   have y4 := K4.out.cell (i := 4) rfl
   have z4 := K4.out.free 4
   have y5 := K4.out.cell (i := 5) rfl
   have z5 := K4.out.free 5
   clear n1 m1 n2 m2
   try simp only [Act.put, List.setIfInBounds_toArray, List.set_cons_zero, List.set_cons_succ]
   refine rc (i := 8) (fun K hK => ?_)
   go_simp
   refine hK.out _ _ (bel_set6 hHeld b4le _ _ _ _ _ _) (fun hHeld => ?_)
   clear hK K
   refine rt (i := 9) hHeld ?_
   try simp only [Act.put, List.setIfInBounds_toArray, List.set_cons_zero, List.set_cons_succ]
   refine wpAnyH_done (by kernel_rfl) ?_ _
   clear y0 y1 y2 y3 y4 y5 z0 z1 z2 z3 z4 z5
   have KF := Ho.mk (blk_set6 K4.out (.bool (dneg r.1)) (.slice A2 (digs (dm r.1)).length c2) (.int .i64 (de r.1)) (.bool (dneg r.2)) (.slice B2 (digs (dm r.2)).length d2) (.int .i64 (de r.2)))
   have D0 := Ho.mk (dv_set6 Q0.out K4.out (.bool (dneg r.1)) (.slice A2 (digs (dm r.1)).length c2) (.int .i64 (de r.1)) (.bool (dneg r.2)) (.slice B2 (digs (dm r.2)).length d2) (.int .i64 (de r.2)))
   have D1 := Ho.mk (dv_set6 Q1.out K4.out (.bool (dneg r.1)) (.slice A2 (digs (dm r.1)).length c2) (.int .i64 (de r.1)) (.bool (dneg r.2)) (.slice B2 (digs (dm r.2)).length d2) (.int .i64 (de r.2)))
   obtain ⟨wf, hwf⟩ : ∃ wf, set6 (w2) (w1).heap.size (.bool (dneg r.1)) (.slice A2 (digs (dm r.1)).length c2) (.int .i64 (de r.1)) (.bool (dneg r.2)) (.slice B2 (digs (dm r.2)).length d2) (.int .i64 (de r.2)) = wf := ⟨_, rfl⟩
   have HH := Ho.mk (show Bel W (set6 (w2) (w1).heap.size (.bool (dneg r.1)) (.slice A2 (digs (dm r.1)).length c2) (.int .i64 (de r.1)) (.bool (dneg r.2)) (.slice B2 (digs (dm r.2)).length d2) (.int .i64 (de r.2))) from hHeld)
   clear hHeld
   rw [hwf] at KF D0 D1 HH
   unfold set6 at hwf
   rw [hwf]
   have KR2 := Ho.mk (KR.out.bel HH.out)
   have y0 := KF.out.cell (i := 0) rfl
   have x0 := KR2.out.cell (i := 0) rfl
   have z0 := KR2.out.free 0
   have y1 := KF.out.cell (i := 1) rfl
   have x1 := KR2.out.cell (i := 1) rfl
   have z1 := KR2.out.free 1
   have y2 := KF.out.cell (i := 2) rfl
   have x2 := KR2.out.cell (i := 2) rfl
   have z2 := KR2.out.free 2
   have y3 := KF.out.cell (i := 3) rfl
   have x3 := KR2.out.cell (i := 3) rfl
   have z3 := KR2.out.free 3
   have y4 := KF.out.cell (i := 4) rfl
   have x4 := KR2.out.cell (i := 4) rfl
   have z4 := KR2.out.free 4
   have y5 := KF.out.cell (i := 5) rfl
   have x5 := KR2.out.cell (i := 5) rfl
   have z5 := KR2.out.free 5
   clear hwf
   go_wp2
   exact I0.gives_endI (fn := Tryz.f243) rfl rfl (G0.out.trans HH.out) (by have := WS.out; omega) KR2.out D0.out D1.out
 ·go_simp
  refine hK.out _ _ (Bel.alloc hHeld _) (fun hHeld => ?_)
  clear hK K
  try simp only [Act.put, List.setIfInBounds_toArray, List.set_cons_zero, List.set_cons_succ]
  refine rc (i := 1) (fun K hK => ?_)
  go_simp
  go_at_call 245
  refine (I3.dShiftI (N := 1) _ (TW.out.bel (((Bel.refl W).drew).alloc (.cells #[.bool false, .slice none 0 0, .int .i64 0, .bool false, .slice none 0 0, .int .i64 0] 42))) (PL.out.bel (((Bel.refl W).drew).alloc (.cells #[.bool false, .slice none 0 0, .int .i64 0, .bool false, .slice none 0 0, .int .i64 0] 42))) (PH.out.bel (((Bel.refl W).drew).alloc (.cells #[.bool false, .slice none 0 0, .int .i64 0, .bool false, .slice none 0 0, .int .i64 0] 42))) (by omega) (by omega) (by omega) (by omega) (by omega)).mono ?_
  rintro e w1 ⟨A1, c1, B1, d1, rfl, n1, m1, b1⟩
  try go_wp2_with fail
  refine hK.out _ _ (Bel.trans hHeld b1) (fun hHeld => ?_)
  clear hK K
  try simp only [Act.put, List.setIfInBounds_toArray, List.set_cons_zero, List.set_cons_succ]
  refine rc (i := 3) (fun K hK => ?_)
  go_simp
  go_at_call 244
  refine (I3.dRootI (i := r) _ (TW.out.bel ((((Bel.refl W).drew).alloc (.cells #[.bool false, .slice none 0 0, .int .i64 0, .bool false, .slice none 0 0, .int .i64 0] 42)).trans b1)) (n1.bel (Bel.refl w1)) (m1.bel (Bel.refl w1)) (by omega) (by omega) hn hnn HS0.out HR0.out HW0.out HR1.out HW1.out).mono ?_
  rintro e w2 ⟨A2, c2, B2, d2, rfl, n2, m2, b2⟩
  try go_wp2_with fail
  refine hK.out _ _ (Bel.trans hHeld b2) (fun hHeld => ?_)
  clear hK K
  refine rt (i := 4) hHeld ?_
  refine rt (i := 5) hHeld ?_
  refine rt (i := 6) hHeld ?_
  have b4le : W.heap.size ≤ W.heap.size := ((Bel.refl W).drew).size
  have K4 := Ho.mk (show Blk (w2) W.heap.size 42 [.bool false, .slice none 0 0, .int .i64 0, .bool false, .slice none 0 0, .int .i64 0] from (Blk.new (W.drew) [.bool false, .slice none 0 0, .int .i64 0, .bool false, .slice none 0 0, .int .i64 0] 42).bel (((Bel.refl (W.drew.alloc (.cells #[.bool false, .slice none 0 0, .int .i64 0, .bool false, .slice none 0 0, .int .i64 0] 42))).trans b1).trans b2))
  have Q0 := Ho.mk (n2.bel (Bel.refl w2))
  have Q1 := Ho.mk (m2.bel (Bel.refl w2))
  have y0 := K4.out.cell (i := 0) rfl
  have z0 := K4.out.free 0
  have y1 := K4.out.cell (i := 1) rfl
  have z1 := K4.out.free 1
  have y2 := K4.out.cell (i := 2) rfl
  have z2 := K4.out.free 2
  have y3 := K4.out.cell (i := 3) rfl
  have z3 := K4.out.free 3
  have y4 := K4.out.cell (i := 4) rfl
  have z4 := K4.out.free 4
  have y5 := K4.out.cell (i := 5) rfl
  have z5 := K4.out.free 5
  clear n1 m1 n2 m2
  try simp only [Act.put, List.setIfInBounds_toArray, List.set_cons_zero, List.set_cons_succ]
  refine rc (i := 8) (fun K hK => ?_)
  go_simp
  refine hK.out _ _ (bel_set6 hHeld b4le _ _ _ _ _ _) (fun hHeld => ?_)
  clear hK K
  refine rt (i := 9) hHeld ?_
  try simp only [Act.put, List.setIfInBounds_toArray, List.set_cons_zero, List.set_cons_succ]
  refine wpAnyH_done (by kernel_rfl) ?_ _
  clear y0 y1 y2 y3 y4 y5 z0 z1 z2 z3 z4 z5
  have KF := Ho.mk (blk_set6 K4.out (.bool (dneg r.1)) (.slice A2 (digs (dm r.1)).length c2) (.int .i64 (de r.1)) (.bool (dneg r.2)) (.slice B2 (digs (dm r.2)).length d2) (.int .i64 (de r.2)))
  have D0 := Ho.mk (dv_set6 Q0.out K4.out (.bool (dneg r.1)) (.slice A2 (digs (dm r.1)).length c2) (.int .i64 (de r.1)) (.bool (dneg r.2)) (.slice B2 (digs (dm r.2)).length d2) (.int .i64 (de r.2)))
  have D1 := Ho.mk (dv_set6 Q1.out K4.out (.bool (dneg r.1)) (.slice A2 (digs (dm r.1)).length c2) (.int .i64 (de r.1)) (.bool (dneg r.2)) (.slice B2 (digs (dm r.2)).length d2) (.int .i64 (de r.2)))
  obtain ⟨wf, hwf⟩ : ∃ wf, set6 (w2) W.heap.size (.bool (dneg r.1)) (.slice A2 (digs (dm r.1)).length c2) (.int .i64 (de r.1)) (.bool (dneg r.2)) (.slice B2 (digs (dm r.2)).length d2) (.int .i64 (de r.2)) = wf := ⟨_, rfl⟩
  have HH := Ho.mk (show Bel W (set6 (w2) W.heap.size (.bool (dneg r.1)) (.slice A2 (digs (dm r.1)).length c2) (.int .i64 (de r.1)) (.bool (dneg r.2)) (.slice B2 (digs (dm r.2)).length d2) (.int .i64 (de r.2))) from hHeld)
  clear hHeld
  rw [hwf] at KF D0 D1 HH
  unfold set6 at hwf
  rw [hwf]
  have KR2 := Ho.mk (KR.out.bel HH.out)
  have y0 := KF.out.cell (i := 0) rfl
  have x0 := KR2.out.cell (i := 0) rfl
  have z0 := KR2.out.free 0
  have y1 := KF.out.cell (i := 1) rfl
  have x1 := KR2.out.cell (i := 1) rfl
  have z1 := KR2.out.free 1
  have y2 := KF.out.cell (i := 2) rfl
  have x2 := KR2.out.cell (i := 2) rfl
  have z2 := KR2.out.free 2
  have y3 := KF.out.cell (i := 3) rfl
  have x3 := KR2.out.cell (i := 3) rfl
  have z3 := KR2.out.free 3
  have y4 := KF.out.cell (i := 4) rfl
  have x4 := KR2.out.cell (i := 4) rfl
  have z4 := KR2.out.free 4
  have y5 := KF.out.cell (i := 5) rfl
  have x5 := KR2.out.cell (i := 5) rfl
  have z5 := KR2.out.free 5
  clear hwf
  go_wp2
  exact I0.gives_endI (fn := Tryz.f243) rfl rfl (G0.out.trans HH.out) (by have := WS.out; omega) KR2.out D0.out D1.out
end C4
namespace I7
open Go Go.RowKit Go.Proofs.YtnbdoidccacdnaaGreatDoor I0
section
variable {P : Program} {ops : Array Oper} {Q : Exit → Act → World → Prop} {md : Region.Mode} {S : World → Prop} {s : Nat}
def wpAnyL (P : Program) (md : Region.Mode) (ops : Array Oper) (Q : Exit → Act → World → Prop) (S : World → Prop) (s : Nat) : Nat → Array Bool → Act → World → Prop
 | 0, listed, a, w => Region.ready md ops listed = [] ∧ Q .normal a w
 | fuel + 1, listed, a, w =>
  (Region.ready md ops listed = [] → Q .normal a w) ∧
  ∀ i ∈ Region.ready md ops listed, if s ≤ i then wpOp P ops Q i (fun a' w' => wpAny P md ops Q fuel (listed.setIfInBounds i true) a' w') a w
   else wpOp P ops Q i (fun a' w' => S w' ∧ wpAnyL P md ops Q S s fuel (listed.setIfInBounds i true) a' w') a w
theorem wpAny_of_late : ∀ (fuel : Nat) (listed : Array Bool) (a : Act) (w : World), wpAnyL P md ops Q S s fuel listed a w → wpAny P md ops Q fuel listed a w
 | 0, _, _, _, h => h
 | fuel + 1, _, _, _, h => ⟨h.1, fun i hi => by
   have := h.2 i hi
   split at this
   ·exact this
   ·exact wpOp_mono (fun a' w' h' => wpAny_of_late fuel _ a' w' h'.2) this⟩
def behind (md : Region.Mode) (ops : Array Oper) : Nat → Nat → Nat → Bool
 | 0, _, _ => false
 | f + 1, j, i => match ops[j]? with
  | some o => o.after.any fun e => Region.binds md e && (e.on == i || behind md ops f e.on i)
  | none => false
def lateOk (md : Region.Mode) (ops : Array Oper) (s : Nat) : Bool := (List.range ops.size).all fun j => decide (j < s) || (List.range s).all fun i => behind md ops ops.size j i
def shutL (md : Region.Mode) (ops : Array Oper) (listed : Array Bool) : Prop := ∀ k, listed.getD k false = true → ∀ o, ops[k]? = some o → ∀ e ∈ o.after, Region.binds md e = true → listed.getD e.on false = true
theorem getD_mono {listed : Array Bool} {j k : Nat} (h : listed.getD k false = true) : (listed.setIfInBounds j true).getD k false = true := by
 simp only [Array.getD_eq_getD_getElem?] at *
 by_cases e : j = k
 ·subst e
  rw [Array.getElem?_setIfInBounds_self]
  rcases Nat.lt_or_ge j listed.size with q | q
  ·simp [q]
  ·rw [Array.getElem?_eq_none q] at h; simp at h
 ·rw [Array.getElem?_setIfInBounds_ne e]; exact h
theorem shut_step {listed : Array Bool} {j : Nat} (h : shutL md ops listed) (hj : j ∈ Region.ready md ops listed) : shutL md ops (listed.setIfInBounds j true) := by
 intro k hk o ho e he hb
 by_cases ek : j = k
 ·subst ek
  obtain ⟨_, o', ho', hall⟩ := mem_ready.1 hj
  rw [ho] at ho'; cases ho'
  exact getD_mono (hall e he hb)
 ·refine getD_mono (h k ?_ o ho e he hb)
  simp only [Array.getD_eq_getD_getElem?] at hk ⊢
  rwa [Array.getElem?_setIfInBounds_ne ek] at hk
theorem behind_listed {listed : Array Bool} (h : shutL md ops listed) {i : Nat} : ∀ f k, listed.getD k false = true → behind md ops f k i = true → listed.getD i false = true
 | 0, _, _, hb => by simp [behind] at hb
 | f + 1, k, hk, hb => by
  unfold behind at hb
  split at hb
  ·rename_i o ho
   obtain ⟨e, he, hc⟩ := Array.any_eq_true'.1 hb
   rw [Bool.and_eq_true, Bool.or_eq_true, beq_iff_eq] at hc
   have := h k hk o ho e he hc.1
   rcases hc.2 with q | q
   ·rw [← q]; exact this
   ·exact behind_listed h f e.on this q
  ·cases hb
theorem late_waits (hl : lateOk md ops s = true) {listed : Array Bool} (h : shutL md ops listed) {i j : Nat} (hi : i ∈ Region.ready md ops listed) (his : i < s) (hj : j ∈ Region.ready md ops listed) : j < s := by
 rcases Nat.lt_or_ge j s with q | q
 ·exact q
 ·exfalso
  obtain ⟨_, o, ho, hall⟩ := mem_ready.1 hj
  have hjs : j < ops.size := (Array.getElem?_eq_some_iff.1 ho).1
  have := List.all_eq_true.1 hl j (List.mem_range.2 hjs)
  rw [Bool.or_eq_true, decide_eq_true_eq] at this
  have hb := List.all_eq_true.1 (this.resolve_left (by omega)) i (List.mem_range.2 his)
  have hun := (mem_ready.1 hi).1
  have : listed.getD i false = true := by
   cases hf : ops.size with
   | zero => omega
   | succ f =>
    rw [hf] at hb
    unfold behind at hb
    rw [ho] at hb
    obtain ⟨e, he, hc⟩ := Array.any_eq_true'.1 hb
    rw [Bool.and_eq_true, Bool.or_eq_true, beq_iff_eq] at hc
    have hx := hall e he hc.1
    rcases hc.2 with q | q
    ·rw [← q]; exact hx
    ·exact behind_listed h f e.on hx q
  simp only [Array.getD_eq_getD_getElem?] at this hun
  rcases Nat.lt_or_ge i listed.size with q | q
  ·simp [q] at this hun; rw [this] at hun; cases hun
  ·simp [Array.getElem?_eq_none q] at this
theorem getD_ne {listed : Array Bool} {j k : Nat} (h : j ≠ k) (d : Bool) : (listed.setIfInBounds j true).getD k d = listed.getD k d := by
 simp only [Array.getD_eq_getD_getElem?]; rw [Array.getElem?_setIfInBounds_ne h]
theorem rdy_mono {listed : Array Bool} {i j : Nat} (hr : i ∈ Region.ready md ops listed) (h : j ≠ i) : i ∈ Region.ready md ops (listed.setIfInBounds j true) := by
 obtain ⟨h1, o, h2, h3⟩ := mem_ready.1 hr
 exact mem_ready.2 ⟨by rw [getD_ne h]; exact h1, o, h2, fun e he hb => getD_mono (h3 e he hb)⟩
theorem wpAnyL_first {i : Nat} {oi : Oper} {v : Value} (hi : ops[i]? = some oi) (hsel : ∀ (j : Nat) (o : Oper) cs b, ops[j]? = some o → o.op ≠ .select cs b)
  (hQ : ∀ c a w, Q (.panic c) (a.put oi.dst v) w → Q (.panic c) a w) (his : i < s) (hl : lateOk md ops s = true) :
  ∀ (fuel : Nat) (listed : Array Bool) (a : Act) (w : World), shutL md ops listed →
   (∀ j oj, ops[j]? = some oj → j ≠ i → listed.getD j true = false → (∀ e ∈ oj.after, Region.binds md e = true → e.on ≠ i) → oi.apart ops oj = true) →
   i ∈ Region.ready md ops listed → YieldsIf P ops S oi v a → S w →
   wpAnyL P md ops Q S s fuel (listed.setIfInBounds i true) (a.put oi.dst v) w → wpAnyL P md ops Q S s (fuel + 1) listed a w := by
 intro fuel
 induction fuel with
 | zero =>
  intro listed a w hc _ hr hy hS H
  refine ⟨fun h => (by rw [h] at hr; cases hr), fun j hj => ?_⟩
  rw [if_neg (by have := late_waits hl hc hr his hj; omega)]
  by_cases hji : j = i
  ·subst hji; exact hy.wpOp hi hS ⟨hS, H⟩
  ·have := rdy_mono hj (Ne.symm hji)
   rw [H.1] at this
   cases this
 | succ fuel ih =>
  intro listed a w hc hfree hr hy hS H
  refine ⟨fun h => (by rw [h] at hr; cases hr), fun j hj => ?_⟩
  have hjs := late_waits hl hc hr his hj
  rw [if_neg (by omega)]
  by_cases hji : j = i
  ·subst hji; exact hy.wpOp hi hS ⟨hS, H⟩
  ·have h1 := H.2 j (rdy_mono hj (Ne.symm hji))
   rw [if_neg (by omega)] at h1
   obtain ⟨hjun, oj, hoj, hall⟩ := mem_ready.1 hj
   have hnot : ∀ e ∈ oj.after, Region.binds md e = true → e.on ≠ i := fun e he hb heq => by
    have h1 := hall e he hb
    have h0 := (mem_ready.1 hr).1
    rw [heq] at h1
    simp only [Array.getD_eq_getD_getElem?] at h0 h1
    rcases Nat.lt_or_ge i listed.size with h' | h'
    ·simp [h'] at h0 h1; rw [h0] at h1; cases h1
    ·simp [Array.getElem?_eq_none h'] at h1
   have h2 := wpOp_putIf hoj (hfree j oj hoj hji hjun hnot) (fun cs b => hsel i oi cs b hi) (fun cs b => hsel j oj cs b hoj) hQ hy h1
   have hfree' : ∀ k ok, ops[k]? = some ok → k ≠ i → (listed.setIfInBounds j true).getD k true = false →
     (∀ e ∈ ok.after, Region.binds md e = true → e.on ≠ i) → oi.apart ops ok = true := fun k ok hk hki hun hno => by
    refine hfree k ok hk hki ?_ hno
    by_cases hjk : j = k
    ·subst hjk; exact hjun
    ·rw [getD_ne hjk] at hun; exact hun
   refine wpOp_mono (fun a' w' h3 => ⟨h3.2.1, ih (listed.setIfInBounds j true) a' w' (shut_step hc hj) hfree' (rdy_mono hr hji) h3.1 h3.2.1 ?_⟩) h2
   rw [Array.setIfInBounds_comm _ _ hji]
   exact h3.2.2
def walkL (P : Program) (md : Region.Mode) (ops : Array Oper) (Q : Exit → Act → World → Prop) (S : World → Prop) (s fuel : Nat) (listed : Array Bool) (a : Act) (w : World) : Prop :=
 shutL md ops listed → wpAnyL P md ops Q S s fuel listed a w
theorem l_take {i : Nat} {oi : Oper} {rest : List Oper} {v : Value} {fuel : Nat} {listed : Array Bool} {a : Act} {w : World} (hi : ops.toList.drop i = oi :: rest) (hl : lateOk md ops s = true) (his : i < s)
  (hs : Region.noSelect ops = true) (hf : Region.free md ops listed i = true) (hr : (Region.ready md ops listed).contains i = true)
  (hQ : ∀ c a w, Q (.panic c) (a.put oi.dst v) w → Q (.panic c) a w) (hy : YieldsIf P ops S oi v a) (hS : S w)
  (h : walkL P md ops Q S s fuel (listed.setIfInBounds i true) (a.put oi.dst v) w) : walkL P md ops Q S s (fuel + 1) listed a w := fun hc => by
 have hr' : i ∈ Region.ready md ops listed := by simpa using hr
 exact wpAnyL_first (ops_at hi) (Region.noSelect_spec hs) hQ his hl fuel listed a w hc (Region.free_spec (ops_at hi) hf) hr' hy hS (h (shut_step hc hr'))
theorem kt {i : Nat} {oi : Oper} {rest : List Oper} {v : Value} {fuel : Nat} {listed : Array Bool} {a : Act} {w : World} (hS : S w)
  (h : walkL P md ops Q S s fuel (listed.setIfInBounds i true) (a.put oi.dst v) w)
  (hi : ops.toList.drop i = oi :: rest := by rfl) (hl : lateOk md ops s = true := by kernel_rfl) (his : i < s := by decide) (hs : Region.noSelect ops = true := by kernel_rfl) (hf : Region.free md ops listed i = true := by kernel_rfl) (hr : (Region.ready md ops listed).contains i = true := by kernel_rfl)
  (hQ : ∀ c a w, Q (.panic c) (a.put oi.dst v) w → Q (.panic c) a w := by exact fun _ _ _ h => h) (hw : Region.wanted oi (yielded ops a.tmps) = true := by kernel_rfl)
  (hv : ∀ w, S w → (execOp a.eval oi).run P w = .ok (.value v) w := by (intro w hSw; go_simp; try (with_reducible rfl))) : walkL P md ops Q S s (fuel + 1) listed a w :=
 l_take hi hl his hs hf hr hQ (.inl ⟨hw, hv⟩) hS h
theorem kl {i : Nat} {oi : Oper} {rest : List Oper} {v : Value} {fuel : Nat} {listed : Array Bool} {a : Act} {w : World} (hS : S w)
  (hv : ∀ w, S w → (execOp a.eval oi).run P w = .ok (.value v) w)
  (h : walkL P md ops Q S s fuel (listed.setIfInBounds i true) (a.put oi.dst v) w)
  (hi : ops.toList.drop i = oi :: rest := by rfl) (hl : lateOk md ops s = true := by kernel_rfl) (his : i < s := by decide) (hs : Region.noSelect ops = true := by kernel_rfl) (hf : Region.free md ops listed i = true := by kernel_rfl) (hr : (Region.ready md ops listed).contains i = true := by kernel_rfl)
  (hQ : ∀ c a w, Q (.panic c) (a.put oi.dst v) w → Q (.panic c) a w := by exact fun _ _ _ h => h) (hw : Region.wanted oi (yielded ops a.tmps) = true := by kernel_rfl) : walkL P md ops Q S s (fuel + 1) listed a w :=
 l_take hi hl his hs hf hr hQ (.inl ⟨hw, hv⟩) hS h
theorem kc {i : Nat} {o : Oper} {rest : List Oper} {fuel : Nat} {listed : Array Bool} {a : Act} {w : World}
  (h : ∀ K' : Act → World → Prop, Shut (∀ a w, S w → (S w → walkL P md ops Q S s fuel (listed.setIfInBounds i true) a w) → K' a w) → Oper.wp P o a w K' Q)
  (hr : Region.ready md ops listed = [i] := by kernel_rfl) (his : i < s := by decide) (hi : ops.toList.drop i = o :: rest := by rfl)
  (hw : Region.wanted o (yielded ops a.tmps) = true := by kernel_rfl) : walkL P md ops Q S s (fuel + 1) listed a w := fun hc =>
 ⟨fun h0 => (by rw [hr] at h0; cases h0), fun j hj => by
  have hj' := hj
  rw [hr] at hj'
  have hji : j = i := by simpa using hj'
  subst hji
  rw [if_neg (by omega)]
  have := wpOp_step (P := P) (ops := ops) (Q := Q) (i := j) (a := a) (w := w) (K := fun a' w' => S w' ∧ wpAnyL P md ops Q S s fuel (listed.setIfInBounds j true) a' w') (ops_at hi) (fun K' hK => by
   rw [if_pos hw]; exact h K' (fun a w hS hW => hK a w ⟨hS, hW hS (shut_step hc hj)⟩))
  exact this⟩
theorem ke {i : Nat} {o : Oper} {rest : List Oper} {fuel : Nat} {listed : Array Bool} {a : Act} {w : World}
  (h : ∀ K' : Act → World → Prop, Shut (∀ a w, wpAny P md ops Q fuel (listed.setIfInBounds i true) a w → K' a w) → Oper.wp P o a w K' Q)
  (hr : Region.ready md ops listed = [i] := by kernel_rfl) (his : s ≤ i := by decide) (hi : ops.toList.drop i = o :: rest := by rfl)
  (hw : Region.wanted o (yielded ops a.tmps) = true := by kernel_rfl) : walkL P md ops Q S s (fuel + 1) listed a w := fun hc =>
 ⟨fun h0 => (by rw [hr] at h0; cases h0), fun j hj => by
  rw [hr] at hj
  have hji : j = i := by simpa using hj
  subst hji
  rw [if_pos his]
  exact wpOp_step (ops_at hi) (fun K' hK => by rw [if_pos hw]; exact h K' hK)⟩
theorem ke2 {i : Nat} {o : Oper} {rest : List Oper} {fuel : Nat} {listed : Array Bool} {a : Act} {w : World}
  (h : ∀ K' : Act → World → Prop, Shut (∀ a w, wpAny P md ops Q fuel (listed.setIfInBounds i true) a w → K' a w) → Oper.wp P o a w K' Q)
  (hr : Region.ready md ops listed = [i] := by kernel_rfl) (hi : ops.toList.drop i = o :: rest := by rfl)
  (hw : Region.wanted o (yielded ops a.tmps) = true := by kernel_rfl) : wpAny P md ops Q (fuel + 1) listed a w :=
 wpAny_all hr (by simp) fun j hj => by
  have hji : j = i := by simpa using hj
  subst hji
  exact wpOp_step (ops_at hi) (fun K' hK => by rw [if_pos hw]; exact h K' hK)
theorem shut_none (n : Nat) : shutL md ops (Array.replicate n false) := fun k hk => by
 simp only [Array.getD_eq_getD_getElem?, Array.getElem?_replicate] at hk
 split at hk <;> simp at hk
theorem wp_region_late (s : Nat) {id : Nat} {a : Act} {w : World} (hm : P.follows .mixedOrders = true) (hS : S w.drew)
  (h : S w.drew → walkL P .any ops Q S s ops.size (Array.replicate ops.size false) a w.drew) : (Code.region id ops true).wp P Q a w :=
 wp_region_any hm (wpAny_of_late _ _ _ _ (h hS (shut_none _)))
end
end I7
namespace V2
open Go Go.RowKit Go.Shelf Go.Proofs Go.Proofs.YtnbdoidccacdnaaGreatDoor Ow Pl Dp F1 T0 T1 Dt
open Go.Proofs.YtnbdoidccacdnaaGreatDoor.V1 (NI St Abides ni_same ni_loop St.refl St.of_bel rd_keep dv_keep blk_keep ni_blk put_st)
def OneInt (w : World) (k : Nat) : Prop := ∃ (z : Int) (t : TypeId), w.heap[k]? = some (.cells #[.int .i64 z] t (0, 0))
def NJ (w : World) (k : Nat) : Prop := NI w k ∨ OneInt w k
theorem nj_same {u v : World} {k : Nat} (h : v.heap[k]? = u.heap[k]?) (n : NJ u k) : NJ v k := n.imp (ni_same h) (fun ⟨z, t, e⟩ => ⟨z, t, h.trans e⟩)
theorem oneInt_blk {w : World} {b : Nat} {t : TypeId} {z : Int} (h : Blk w b t [.int .i64 z]) : OneInt w b := ⟨z, t, h.out⟩
structure Yd (bs O : List Nat) (B : Nat) (w w' : World) : Prop where
 os : w'.os = w.os
 tape : w'.tape = w.tape
 output : w'.output = w.output
 size : w.heap.size ≤ w'.heap.size
 block : ∀ k, k < w.heap.size → w'.heap[k]? = w.heap[k]? ∨ (NJ w k ∧ k ∉ O ∧ (k ∈ bs ∨ B ≤ k))
theorem Yd.of_bel {u v : World} (h : Bel u v) (bs O : List Nat) (B : Nat) : Yd bs O B u v := ⟨h.out.os, h.out.tape, h.out.output, h.out.size, fun k hk => .inl (h.out.block k hk)⟩
theorem Yd.st {bs O : List Nat} {B : Nat} {u v : World} (h : Yd bs O B u v) : ∀ k, k < u.heap.size → v.heap[k]? = u.heap[k]? ∨ NJ u k := fun k hk => (h.block k hk).imp id (·.1)
theorem Yd.trans {bs O : List Nat} {B : Nat} {u v w : World} (h : Yd bs O B u v) (g : Yd bs O B v w) : Yd bs O B u w :=
 ⟨g.os.trans h.os, g.tape.trans h.tape, g.output.trans h.output, Nat.le_trans h.size g.size, fun k hk => by
  rcases h.block k hk with e | e
  ·rcases g.block k (Nat.lt_of_lt_of_le hk h.size) with q | ⟨q1, q2⟩
   ·exact .inl (q.trans e)
   ·exact .inr ⟨nj_same e.symm q1, q2⟩
  ·exact .inr e⟩
theorem rd_same {u v : World} {A : Option Addr} {l : List Int} (h : Rd u A l) (hs : ∀ ad, A = some ad → 0 < l.length → v.heap[ad.block]? = u.heap[ad.block]?) : Rd v A l :=
 ⟨h.max, fun j hj => by
  obtain ⟨ad, e, hc⟩ := h.cell j hj
  refine ⟨ad, e, ?_⟩
  have := hs ad e (by omega)
  unfold World.cell? at hc ⊢
  rw [add_block] at hc ⊢
  rw [this]; exact hc⟩
theorem ni_no {u : World} {ad : Addr} {x : Nat} (h : Rd u (some ad) (digs x)) (hx : 0 < (digs x).length) (q : NI u ad.block) : False := by
 obtain ⟨ad', e', hc'⟩ := h.cell ((digs x).length - 1) (by omega)
 cases e'
 have h0 := q (ad.add ((digs x).length - 1)) (add_block _ _) _ hc'
 have hl := digs_can x
 have hlast : (digs x).getLast? = some (nth (digs x) ((digs x).length - 1)) := by
  rw [List.getLast?_eq_getElem?]; simp only [nth]
  rw [List.getElem?_eq_getElem (by omega), List.getD_eq_getElem?_getD, List.getElem?_eq_getElem (by omega)]; rfl
 have hmem : nth (digs x) ((digs x).length - 1) ∈ digs x := List.mem_of_getLast? hlast
 have h1 := (hl.1 _ hmem).1
 have : nth (digs x) ((digs x).length - 1) = 0 := by omega
 exact hl.2 (by rw [hlast, this])
theorem add_off (ad : Addr) (j : Nat) : (ad.add j).off = ad.off + j := by
 unfold Addr.add; split
 ·subst_vars; rfl
 ·rfl
theorem one_cell {u : World} {ad : Addr} {z y : Int} {t : TypeId} {j : Nat} (e : u.heap[ad.block]? = some (.cells #[.int .i64 z] t (0, 0))) (hc : u.cell? (ad.add j) = some (.int .i64 y)) : ad.off + j = 0 ∧ y = z := by
 unfold World.cell? at hc
 rw [add_block, e] at hc
 simp at hc
 have := hc.2
 rw [add_off] at this
 rcases hn : ad.off + j with _ | k
 ·rw [hn] at this; simp at this; exact ⟨rfl, this.symm⟩
 ·rw [hn] at this; simp at this
theorem rd_keepL {u v : World} {A : Option Addr} {x : Nat} (h : Rd u A (digs x)) (hl : x = 0 ∨ 2 ≤ (digs x).length) (hs : ∀ k, k < u.heap.size → v.heap[k]? = u.heap[k]? ∨ NJ u k) : Rd v A (digs x) := by
 rcases hl with rfl | hl
 ·rw [digs_zero]; exact Rd.nil _ _
 ·refine rd_same h fun ad hA hlen => ?_
  subst hA
  obtain ⟨ad', e0, hc0⟩ := h.cell 0 hlen
  cases e0
  have hlt := World.block_lt_of_cell? u _ hc0
  rw [add_block] at hlt
  rcases hs _ hlt with e | e | ⟨z, t, e⟩
  ·exact e
  ·exact (ni_no h hlen e).elim
  ·exfalso
   obtain ⟨ad', e1, hc1⟩ := h.cell 1 (by omega)
   cases e1
   have := (one_cell e hc1).1
   omega
theorem lg_nat {v : Int} (h : LgV v) : dm v = 0 ∨ 2 ≤ (digs (dm v)).length := h.imp (fun e => by rw [e]; exact odd_zero) id
theorem dv_keepL {u v : World} {A : Option Addr} {c : Nat} {x : Int} {L U : Nat} (h : Dv u A c x L U) (hl : LgV x) (hs : ∀ k, k < u.heap.size → v.heap[k]? = u.heap[k]? ∨ NJ u k) : Dv v A c x L U := ⟨h.cap, rd_keepL h.rd (lg_nat hl) hs, h.wd⟩
def KyV (v : Int) : Prop := LgV v ∨ dm v = 1
theorem dv_keepQ {u v : World} {A : Option Addr} {c b : Nat} {x z : Int} {L U : Nat} {t : TypeId} (h : Dv u A c x L U) (hl : KyV x) (hb : Blk u b t [.int .i64 z]) (hz : z ≠ 1) (hs : ∀ k, k < u.heap.size → k ≠ b → v.heap[k]? = u.heap[k]?) : Dv v A c x L U := by
 rcases hl with hl | h1
 ·exact dv_keepL h hl fun k hk => by
   by_cases e : k = b
   ·subst e; exact .inr (.inr (oneInt_blk hb))
   ·exact .inl (hs k hk e)
 ·refine ⟨h.cap, rd_same h.rd fun ad hA hlen => ?_, h.wd⟩
  subst hA
  obtain ⟨ad', e0, hc0⟩ := h.rd.cell 0 hlen
  cases e0
  have hlt := World.block_lt_of_cell? u _ hc0
  rw [add_block] at hlt
  by_cases e : ad.block = b
  ·exfalso
   subst e
   have := (one_cell hb.out hc0).2
   rw [h1] at this
   have hd : digs 1 = [1] := digs_one
   rw [hd] at this
   exact hz this.symm
  ·exact hs _ hlt e
structure Wk (ks : List Nat) (w w' : World) : Prop where
 size : w.heap.size ≤ w'.heap.size
 block : ∀ k, k < w.heap.size → w'.heap[k]? = w.heap[k]? ∨ (NJ w k ∧ k ∈ ks)
theorem Wk.refl (ks : List Nat) (w : World) : Wk ks w w := ⟨Nat.le_refl _, fun _ _ => .inl rfl⟩
theorem Wk.bel {ks : List Nat} {u v w : World} (h : Wk ks u v) (g : Bel v w) : Wk ks u w := ⟨Nat.le_trans h.size g.size, fun k hk => (h.block k hk).imp (fun e => (g.out.block k (Nat.lt_of_lt_of_le hk h.size)).trans e) id⟩
theorem Wk.yd {ks O : List Nat} {u v w : World} (h : Wk ks u v) (g : Yd ks O u.heap.size v w) : Wk ks u w := ⟨Nat.le_trans h.size g.size, fun k hk => by
 rcases h.block k hk with e | e
 ·rcases g.block k (Nat.lt_of_lt_of_le hk h.size) with q | ⟨q1, q2, q3 | q3⟩
  ·exact .inl (q.trans e)
  ·exact .inr ⟨nj_same e.symm q1, q3⟩
  ·omega
 ·exact .inr e⟩
theorem Wk.blk {ks : List Nat} {u v : World} {b : Nat} {t : TypeId} {cs : List Value} (h : Wk ks u v) (hb : b ∉ ks) (k : Blk u b t cs) : Blk v b t cs := by
 rcases h.block b k.lt with e | e
 ·exact blk_keep k e
 ·exact (hb e.2).elim
theorem Wk.tab {ks : List Nat} {u v : World} (h : Wk ks u v) (hb : 2 ∉ ks) (k : Tab u) : Tab v := by
 rcases h.block 2 (I4.Tab.lt k) with e | e
 ·exact ⟨fun i hi => by have := k.cell i hi; unfold World.cell? at this ⊢; rw [e]; exact this⟩
 ·exact (hb e.2).elim
theorem yd_blk {ks O : List Nat} {B : Nat} {u v : World} {b : Nat} {t : TypeId} {cs : List Value} (h : Yd ks O B u v) (hb : b ∈ O) (k : Blk u b t cs) : Blk v b t cs := by
 rcases h.block b k.lt with e | ⟨_, e, _⟩
 ·exact blk_keep k e
 ·exact (e hb).elim
def bodyB {α : Type} (bs O : List Nat) (B : Nat) (I : List α → List Nat → World → Prop) (Ix : Code → List α → List Nat → World → Prop) (pre : List α) (W : World) : Exit → Act → World → Prop
 | .normal, _, w => Yd bs O B W w ∧ I pre O w
 | .ret, _, w => Yd bs O B W w ∧ Ix .ret pre O w
 | .exit id, _, w => Yd bs O B W w ∧ Ix (.exit id) pre O w
 | .goto t, _, w => Yd bs O B W w ∧ Ix (.goto t) pre O w
 | .panic _, _, _ => False
 | .outgrown, _, _ => False
def SeqB {α : Type} (P : Program) (n : Nat) (l : Nat) (gf : Nat) (lb : Array Value) (encs : α → Array Value) (ks : List Nat) (N : Nat) (Px : List α → α → World → Prop) (S Sp : List α → Prop) (W : World) (Bd : Prop := False) : Prop :=
 ∀ (J Jx : List α → List Nat → World → Prop), (Bd → ∀ pre O W, J pre O W → pre.length < N) → (∀ s, V1.Abides (J s)) → (∀ s, V1.Abides (Jx s)) →
  (∀ pre O x W1, J pre O W1 → pre.length < N → Px pre x W1 → (∀ k ∈ O, W.heap.size ≤ k) → W.heap.size ≤ W1.heap.size → YieldAt Fence.wide (n - 1) P l (encs x) W1 fun e W' =>
   (e = .returned (.bool true) ∧ J (pre ++ [x]) O W' ∧ Yd ks O W.heap.size W1 W') ∨ (e = .returned (.bool false) ∧ Jx (pre ++ [x]) O W' ∧ Yd ks O W.heap.size W1 W')) →
  J [] [] W → CallsIn Fence.wide n P gf (#[.func (.yield l) #[] #[]] ++ lb) W fun e W' => (∃ v, e = .returned v) ∧ ((∃ ys O, S ys ∧ J ys O W' ∧ ∀ k ∈ O, W.heap.size ≤ k) ∨ (∃ pre O, Sp pre ∧ Jx pre O W' ∧ ∀ k ∈ O, W.heap.size ≤ k))
theorem rangeB {α : Type} {P : Program} {n : Nat} {g : Operand} {ps : Array Tmp} {assign body : Code} {Q : Exit → Act → World → Prop} {a : Act} {w : World}
  (h1 : 1 ≤ n) {gf : Nat} {lb : Array Value} (hg : a.eval g = .func (.func gf) #[] lb) (eg : ∀ args w, (callFunc gf args).run P w = .ok (.enter gf args) w)
  {encs : α → Array Value} (hps : ∀ x, (encs x).size = ps.size) {bs : List Nat} (hbs : ∀ b ∈ bs, b < w.heap.size) {N : Nat} {Px : List α → α → World → Prop} {S Sp : List α → Prop} {Bd : Prop}
  (hseq : ∀ W, W.heap.size = w.heap.size + 2 → Bel w W → SeqB P (n - 1) (w.heap.size + 1) gf lb encs (bs ++ [w.heap.size + 1]) N Px S Sp W Bd)
  (I : List α → List Nat → World → Prop) (Ix : Code → List α → List Nat → World → Prop) (hBd : Bd → ∀ pre O W, I pre O W → pre.length < N) (hI : ∀ s, V1.Abides (I s)) (hIx : ∀ c s, V1.Abides (Ix c s)) (h0 : I [] [] w)
  (Ax : List α → α → Act → World → Prop) (hAx : ∀ pre x a' A r o, A.heap[w.heap.size + 1]? = some (.loop r) → Ax pre x a' A → Ax pre x a' (A.putObj (w.heap.size + 1) o))
  (hassign : ∀ (l : Nat) (pre : List α) (O : List Nat) (x : α) (W : World) (K : Act → World → Prop), I pre O W → w.heap.size + 1 < W.heap.size → Px pre x W → (∀ a' W1, Bel W W1 → Ax pre x a' W1 → K a' W1) →
   assign.wpIn (Fence.wide.inRound l) (n - 1 - 1) P (Exit.then K (fun _ _ _ => False)) { tmps := (ps.zip (encs x)).foldl (fun t (p, v) => t.setIfInBounds p v) a.tmps, defers := [] } W)
  (hbody : ∀ (l : Nat) (pre : List α) (O : List Nat) (x : α) (a' : Act) (W : World), I pre O W → pre.length < N → w.heap.size + 1 < W.heap.size → Ax pre x a' W → (∀ k ∈ O, w.heap.size + 1 ≤ k) → (w.heap.size + 1) ∈ O →
   body.wpIn (Fence.wide.inRound l) (n - 1 - 1) P (bodyB bs O (w.heap.size + 2) I Ix (pre ++ [x]) W) a' W)
  (hdone : ∀ (ys : List α) (O : List Nat) (W : World), w.heap.size + 1 < W.heap.size → S ys → I ys O W → W.heap[w.heap.size]? = some (.deferred (some [])) → Q .normal { a with defers := { target := .collected w.heap.size, args := #[] } :: a.defers } W)
  (hstop : ∀ (c : Code) (pre : List α) (O : List Nat) (W : World), w.heap.size + 1 < W.heap.size → Sp pre → Ix c pre O W → W.heap[w.heap.size]? = some (.deferred (some [])) → c.wpIn Fence.wide n P Q { a with defers := { target := .collected w.heap.size, args := #[] } :: a.defers } W) :
  (Code.rangeFunc g ps assign body).wpIn Fence.wide n P Q a w := by
 apply wpIn_rangeFunc
 intro fn _
 obtain ⟨rec, hrec⟩ : ∃ rec : LoopState → Option Code → Loop, rec = fun st pe => { state := st, pending := pe, fn, tmps := a.tmps, params := ps, assign, body, defers := w.heap.size } := ⟨_, rfl⟩
 have R0 : (Instr.enterLoop fn a.tmps ps assign body none).run P w = .ok (w.heap.size + 1, [{ target := .collected w.heap.size, args := #[] }]) ((w.alloc (.deferred (some []))).alloc (.loop (rec .ready none))) := by
  rw [hrec]; exact run_enterLoop_outer fn a.tmps ps assign body
 have L1 : ((w.alloc (.deferred (some []))).alloc (.loop (rec .ready none))).heap[w.heap.size + 1]? = some (.loop (rec .ready none)) := by
  have := World.alloc_heap_new (w.alloc (.deferred (some []))) (.loop (rec .ready none))
  rwa [World.size_alloc] at this
 have D1 : ((w.alloc (.deferred (some []))).alloc (.loop (rec .ready none))).heap[w.heap.size]? = some (.deferred (some [])) :=
  (Below.heap_alloc _ _ _ (by simp)).trans (World.alloc_heap_new w _)
 have B1 : Bel w ((w.alloc (.deferred (some []))).alloc (.loop (rec .ready none))) := ((Bel.refl w).alloc _).alloc _
 have Z1 : ((w.alloc (.deferred (some []))).alloc (.loop (rec .ready none))).heap.size = w.heap.size + 2 := by simp only [World.size_alloc]
 generalize (w.alloc (.deferred (some []))).alloc (.loop (rec .ready none)) = W1 at R0 L1 D1 B1 Z1
 refine ⟨w.heap.size + 1, [{ target := .collected w.heap.size, args := #[] }], W1, { target := .fn (.func gf) lb, args := #[.func (.yield (w.heap.size + 1)) #[] #[]] }, W1, gf, #[.func (.yield (w.heap.size + 1)) #[] #[]] ++ lb, W1, R0, ?_, fun _ _ => trivial, ?_, fun _ => h1, ?_⟩
 ·simp only [resolve, hg]; simp [go_sem]
 ·simp [invoke, go_sem, eg]
 -- what stays of the loop's record and of the deferred block, when the iterator steps
 have kept : ∀ {O : List Nat} {A B : World} {k : Nat} {o : Obj}, St O A B → (∀ k ∈ O, w.heap.size + 2 ≤ k) → k < w.heap.size + 2 → A.heap[k]? = some o → B.heap[k]? = some o := fun {O A B k o} hs ho hk he => by
  have hlt : k < A.heap.size := (Array.getElem?_eq_some_iff.1 he).1
  rcases hs.block k hlt with q | ⟨q, _⟩
  ·exact q.trans he
  ·have := ho k q; omega
 have cons : ∀ {J : List Nat → World → Prop}, V1.Abides J → V1.Abides fun O W => J ((w.heap.size + 1) :: O) W := fun hJ O A O' B h hs h1 h2 =>
  hJ ((w.heap.size + 1) :: O) A ((w.heap.size + 1) :: O') B h ⟨hs.os, hs.tape, hs.output, hs.size, fun k hk => (hs.block k hk).imp id fun ⟨x, y⟩ => ⟨List.mem_cons_of_mem _ x, y⟩⟩
   (fun k hk => (List.mem_cons.1 hk).elim (fun e => e ▸ List.mem_cons_self) (fun q => List.mem_cons_of_mem _ (h1 k q)))
   (fun k hk => (List.mem_cons.1 hk).elim (fun e => .inl (e ▸ List.mem_cons_self)) (fun q => (h2 k q).imp (List.mem_cons_of_mem _) id))
 refine (hseq W1 Z1 B1 (fun pre O W => I pre ((w.heap.size + 1) :: O) W ∧ (∀ k ∈ O, w.heap.size + 2 ≤ k) ∧ w.heap.size + 2 ≤ W.heap.size ∧ W.heap[w.heap.size + 1]? = some (.loop (rec .ready none)) ∧ W.heap[w.heap.size]? = some (.deferred (some [])))
  (fun pre O W => ∃ c, Ix c pre ((w.heap.size + 1) :: O) W ∧ (∀ k ∈ O, w.heap.size + 2 ≤ k) ∧ w.heap.size + 2 ≤ W.heap.size ∧ W.heap[w.heap.size + 1]? = some (.loop (rec .done (some c))) ∧ W.heap[w.heap.size]? = some (.deferred (some []))) (fun hb pre O W h => hBd hb pre _ W h.1) ?_ ?_ ?_ ?_).mono ?_
 ·rintro s O A O' B ⟨x, o, sz, y, z⟩ hb h1 h2
  exact ⟨cons (hI s) _ _ _ _ x hb h1 h2, fun k hk => (h2 k hk).elim (o k) (fun q => by omega), Nat.le_trans sz hb.size, kept hb o (by omega) y, kept hb o (by omega) z⟩
 ·rintro s O A O' B ⟨c, x, o, sz, y, z⟩ hb h1 h2
  exact ⟨c, cons (hIx c s) _ _ _ _ x hb h1 h2, fun k hk => (h2 k hk).elim (o k) (fun q => by omega), Nat.le_trans sz hb.size, kept hb o (by omega) y, kept hb o (by omega) z⟩
 ·rintro pre O x W ⟨hi, ho, hsw, hl, hd⟩ hlen hpx hok hsz
  have hy := run_yield (P := P) (args := encs x) hl (by rw [hrec]; exact hps x)
  rw [hrec] at hy
  refine ⟨fn, _, assign, body, hy, roundIn_of_wpIn trivial (hassign _ pre _ x W _ hi (by omega) hpx ?_)⟩
  intro a' W2 b2 ax2
  have hl2 := (b2.out.block _ (by omega)).trans hl
  have hd2 := (b2.out.block _ (by omega)).trans hd
  have z2 := b2.size
  refine ⟨_, run_beginRound hl2 (by rw [hrec]), ?_⟩
  have lt2 : w.heap.size + 1 < W2.heap.size := by omega
  have hl3 : (W2.putObj (w.heap.size + 1) (.loop { rec .ready none with state := .busy })).heap[w.heap.size + 1]? = some (.loop { rec .ready none with state := .busy }) := World.putObj_heap_same lt2
  have hd3 : (W2.putObj (w.heap.size + 1) (.loop { rec .ready none with state := .busy })).heap[w.heap.size]? = some (.deferred (some [])) := (World.putObj_heap_other (by omega)).trans hd2
  have z3 : (W2.putObj (w.heap.size + 1) (.loop { rec .ready none with state := .busy })).heap.size = W2.heap.size := by simp [World.putObj]
  have k3 : ∀ k, k < W.heap.size → k ≠ w.heap.size + 1 → (W2.putObj (w.heap.size + 1) (.loop { rec .ready none with state := .busy })).heap[k]? = W.heap[k]? := fun k hk hn => (World.putObj_heap_other hn).trans (b2.out.block k hk)
  have e3 : (W2.putObj (w.heap.size + 1) (.loop { rec .ready none with state := .busy })).os = W.os ∧ (W2.putObj (w.heap.size + 1) (.loop { rec .ready none with state := .busy })).tape = W.tape ∧ (W2.putObj (w.heap.size + 1) (.loop { rec .ready none with state := .busy })).output = W.output := ⟨b2.out.os, b2.out.tape, b2.out.output⟩
  have i3 : I pre ((w.heap.size + 1) :: O) (W2.putObj (w.heap.size + 1) (.loop { rec .ready none with state := .busy })) :=
   hI _ _ _ _ _ (hI _ _ _ _ _ hi (St.of_bel b2 _) (fun _ h => h) (fun _ h => .inl h)) (put_st hl2 _ List.mem_cons_self) (fun _ h => h) (fun _ h => .inl h)
  have a3 := hAx pre x a' W2 _ (.loop { rec .ready none with state := .busy }) hl2 ax2
  generalize W2.putObj (w.heap.size + 1) (.loop { rec .ready none with state := .busy }) = W3 at hl3 hd3 z3 k3 i3 a3 e3
  refine wpIn_mono (hbody _ pre ((w.heap.size + 1) :: O) x a' W3 i3 hlen (by omega) a3 (fun k hk => (List.mem_cons.1 hk).elim (fun e => by omega) (fun q => by have := ho k q; omega)) List.mem_cons_self) ?_
  have fin : ∀ (j : Option Code) (W4 : World), Yd bs ((w.heap.size + 1) :: O) (w.heap.size + 2) W3 W4 →
    (Instr.endRound (w.heap.size + 1) j).run P W4 = .ok (.bool j.isNone) (W4.putObj (w.heap.size + 1) (.loop (rec (if j.isNone then .ready else .done) j))) ∧
    (W4.putObj (w.heap.size + 1) (.loop (rec (if j.isNone then .ready else .done) j))).heap[w.heap.size + 1]? = some (.loop (rec (if j.isNone then .ready else .done) j)) ∧
    (W4.putObj (w.heap.size + 1) (.loop (rec (if j.isNone then .ready else .done) j))).heap[w.heap.size]? = some (.deferred (some [])) ∧
    w.heap.size + 2 ≤ (W4.putObj (w.heap.size + 1) (.loop (rec (if j.isNone then .ready else .done) j))).heap.size ∧
    Yd (bs ++ [w.heap.size + 1]) O W1.heap.size W (W4.putObj (w.heap.size + 1) (.loop (rec (if j.isNone then .ready else .done) j))) ∧
    (∃ r, W4.heap[w.heap.size + 1]? = some (.loop r)) := fun j W4 k4 => by
   have hl4 : W4.heap[w.heap.size + 1]? = some (.loop { rec .ready none with state := .busy }) := by
    rcases k4.block (w.heap.size + 1) (by omega) with q | ⟨_, q, _⟩
    ·exact q.trans hl3
    ·exact (q List.mem_cons_self).elim
   have hd4 : W4.heap[w.heap.size]? = some (.deferred (some [])) := by
    rcases k4.block w.heap.size (by omega) with q | ⟨_, _, q | q⟩
    ·exact q.trans hd3
    ·exact (Nat.lt_irrefl _ (hbs _ q)).elim
    ·omega
   have e := run_endRound (P := P) j hl4
   have z4 := k4.size
   refine ⟨?_, World.putObj_heap_same (by omega), (World.putObj_heap_other (by omega)).trans hd4, by simp only [World.putObj, Array.size_setIfInBounds, Array.size_modify] at *; omega, ⟨k4.os.trans e3.1, k4.tape.trans e3.2.1, k4.output.trans e3.2.2, by simp only [World.putObj, Array.size_setIfInBounds, Array.size_modify] at *; omega, fun k hk => ?_⟩, _, hl4⟩
   ·rw [hrec] at e ⊢
    exact e
   ·by_cases ek : k = w.heap.size + 1
    ·subst ek
     exact .inr ⟨.inl (ni_loop hl), fun q => by have := ho _ q; omega, .inl (by simp)⟩
    ·rcases k4.block k (by omega) with q | ⟨q1, q2, q3⟩
     ·exact .inl ((World.putObj_heap_other ek).trans (q.trans (k3 k hk ek)))
     ·refine .inr ⟨nj_same (k3 k hk ek).symm q1, fun q => q2 (List.mem_cons_of_mem _ q), ?_⟩
      rcases q3 with q3 | q3
      ·exact .inl (by simp [q3])
      ·exact .inr (by omega)
  have putI : ∀ {J : List Nat → World → Prop} {W4 : World} {o : Obj}, V1.Abides J → (∃ r, W4.heap[w.heap.size + 1]? = some (.loop r)) → J ((w.heap.size + 1) :: O) W4 → J ((w.heap.size + 1) :: O) (W4.putObj (w.heap.size + 1) o) :=
   fun hJ ⟨r, hr⟩ h => hJ _ _ _ _ h (put_st hr _ List.mem_cons_self) (fun _ h => h) (fun _ h => .inl h)
  rintro e a4 W4 hp
  cases e with
  | normal =>
   obtain ⟨k4, i4⟩ := hp
   obtain ⟨f1, f2, f3, f4, f5, f6⟩ := fin none W4 k4
   exact ⟨_, _, f1, .inl ⟨rfl, ⟨putI (hI _) f6 i4, ho, f4, f2, f3⟩, f5⟩⟩
  | ret =>
   obtain ⟨k4, i4⟩ := hp
   obtain ⟨f1, f2, f3, f4, f5, f6⟩ := fin (some .ret) W4 k4
   exact ⟨_, _, f1, .inr ⟨rfl, ⟨.ret, putI (hIx _ _) f6 i4, ho, f4, f2, f3⟩, f5⟩⟩
  | exit id =>
   obtain ⟨k4, i4⟩ := hp
   obtain ⟨f1, f2, f3, f4, f5, f6⟩ := fin (some (.exit id)) W4 k4
   exact ⟨_, _, f1, .inr ⟨rfl, ⟨.exit id, putI (hIx _ _) f6 i4, ho, f4, f2, f3⟩, f5⟩⟩
  | goto t =>
   obtain ⟨k4, i4⟩ := hp
   obtain ⟨f1, f2, f3, f4, f5, f6⟩ := fin (some (.goto t)) W4 k4
   exact ⟨_, _, f1, .inr ⟨rfl, ⟨.goto t, putI (hIx _ _) f6 i4, ho, f4, f2, f3⟩, f5⟩⟩
  | panic _ => exact hp.elim
  | outgrown => exact hp.elim
 ·refine ⟨hI _ _ _ _ _ h0 (St.of_bel B1 _) (fun k hk => by simp at hk) (fun k hk => .inr (by simp at hk; omega)), by simp, by omega, L1, D1⟩
 ·rintro e W2 ⟨⟨v, rfl⟩, hr⟩
  rcases hr with ⟨ys, O, hs, ⟨hi, ho, hsz, hl, hd⟩, _⟩ | ⟨pre, O, hs, ⟨c, hi, ho, hsz, hl, hd⟩, _⟩
  ·have e := run_endLoop (P := P) hl (by rw [hrec]; simp)
   have lt := (Array.getElem?_eq_some_iff.1 hl).1
   refine ⟨none, W2.putObj (w.heap.size + 1) (.loop { rec .ready none with state := .exhausted }), by rw [e, hrec], ?_⟩
   exact hdone ys _ _ (by simpa [World.putObj] using lt) hs (hI _ _ _ _ _ hi (put_st hl _ List.mem_cons_self) (fun _ h => h) (fun _ h => .inl h)) ((World.putObj_heap_other (by omega)).trans hd)
  ·have e := run_endLoop (P := P) hl (by rw [hrec]; simp)
   have lt := (Array.getElem?_eq_some_iff.1 hl).1
   refine ⟨some c, W2.putObj (w.heap.size + 1) (.loop { rec .done (some c) with state := .exhausted }), by rw [e, hrec], ?_⟩
   exact hstop c pre _ _ (by simpa [World.putObj] using lt) hs (hIx _ _ _ _ _ _ hi (put_st hl _ List.mem_cons_self) (fun _ h => h) (fun _ h => .inl h)) ((World.putObj_heap_other (by omega)).trans hd)
end V2
namespace C5
open Go Go.RowKit Go.Proofs.YtnbdoidccacdnaaGreatDoor Ow Pl Dp Dt D3 F1 T0 I0 I4 V2 T1
open Go.Proofs.YtnbdoidccacdnaaGreatDoor.V1 (NI St Abides ni_same ni_loop St.refl St.of_bel rd_keep dv_keep blk_keep ni_blk put_st)
open C0 C1 C3
attribute [local go_sem ↓] Go.wp_at_zero Go.wp_at_succ
structure Pc where
 A : Option Addr
 a : Nat
 B : Option Addr
 b : Nat
 C : Option Addr
 c : Nat
 D : Option Addr
 d : Nat
 p : Pt
def Pc.cells (x : Pc) : List Value := [.bool (dneg x.p.1.1), .slice x.A (digs (dm x.p.1.1)).length x.a, .int .i64 (de x.p.1.1), .bool (dneg x.p.1.2), .slice x.B (digs (dm x.p.1.2)).length x.b, .int .i64 (de x.p.1.2), .bool (dneg x.p.2.1), .slice x.C (digs (dm x.p.2.1)).length x.c, .int .i64 (de x.p.2.1), .bool (dneg x.p.2.2), .slice x.D (digs (dm x.p.2.2)).length x.d, .int .i64 (de x.p.2.2)]
def Pc.enc (x : Pc) : Array Value := #[.agg #[.bool (dneg x.p.1.1), .slice x.A (digs (dm x.p.1.1)).length x.a, .int .i64 (de x.p.1.1), .bool (dneg x.p.1.2), .slice x.B (digs (dm x.p.1.2)).length x.b, .int .i64 (de x.p.1.2), .bool (dneg x.p.2.1), .slice x.C (digs (dm x.p.2.1)).length x.c, .int .i64 (de x.p.2.1), .bool (dneg x.p.2.2), .slice x.D (digs (dm x.p.2.2)).length x.d, .int .i64 (de x.p.2.2)]]
structure Pc.Dv (W : World) (x : Pc) : Prop where
 k1 : F1.Dv W x.A x.a x.p.1.1 400 3
 k2 : F1.Dv W x.B x.b x.p.1.2 400 3
 k3 : F1.Dv W x.C x.c x.p.2.1 400 3
 k4 : F1.Dv W x.D x.d x.p.2.2 400 3
theorem Pc.Dv.bel {u v : World} {x : Pc} (h : x.Dv u) (g : Bel u v) : x.Dv v := ⟨h.k1.bel g, h.k2.bel g, h.k3.bel g, h.k4.bel g⟩
theorem Pc.Dv.keep {u v : World} {x : Pc} (h : x.Dv u) (hs : ∀ k, k < u.heap.size → v.heap[k]? = u.heap[k]? ∨ NI u k) : x.Dv v := ⟨dv_keep h.k1 hs, dv_keep h.k2 hs, dv_keep h.k3 hs, dv_keep h.k4 hs⟩
theorem Pc.Dv.keepL {u v : World} {x : Pc} (h : x.Dv u) (l : LgP x.p) (hs : ∀ k, k < u.heap.size → v.heap[k]? = u.heap[k]? ∨ NJ u k) : x.Dv v := ⟨dv_keepL h.k1 l.cl hs, dv_keepL h.k2 l.ch hs, dv_keepL h.k3 l.sl hs, dv_keepL h.k4 l.sh hs⟩
theorem ni_pc {w : World} {b : Nat} {t : TypeId} {x : Pc} (K : Blk w b t x.cells) (h : OkP x.p) : NI w b := ni_blk K (by
 have h1 := h.cl.e0
 have h2 := h.ch.e0
 have h3 := h.sl.e0
 have h4 := h.sh.e0
 intro i z hz
 unfold Pc.cells at hz
 rcases i with _ | _ | _ | _ | _ | _ | _ | _ | _ | _ | _ | _ | i <;> simp at hz <;> omega)
theorem least_ex {p : Nat → Prop} : ∀ n, p n → ∃ m, p m ∧ ∀ k, p k → m ≤ k := by
 intro n
 induction n using Nat.strongRecOn with
 | _ n ih =>
  intro h
  by_cases hk : ∃ k, k < n ∧ p k
  ·obtain ⟨k, h1, h2⟩ := hk
   exact ih k h1 h2
  ·exact ⟨n, h, fun k hp => by
    rcases Nat.lt_or_ge k n with q | q
    ·exact (hk ⟨k, q, hp⟩).elim
    ·exact q⟩
noncomputable def leastN (p : Nat → Prop) : Nat := by
 classical
 exact if h : ∃ n, p n then Classical.choose (least_ex (Classical.choose h) (Classical.choose_spec h)) else 0
theorem leastN_spec {p : Nat → Prop} {n : Nat} (h : p n) : p (leastN p) ∧ ∀ k, p k → leastN p ≤ k := by
 unfold leastN
 rw [dif_pos ⟨n, h⟩]
 exact Classical.choose_spec (least_ex (Classical.choose ⟨n, h⟩) (Classical.choose_spec ⟨n, h⟩))
def At (J : List Pc → List Nat → World → Prop) (ks : List Nat) (W : World) (w N b : Nat) (m : Nat) (wr : World) : Prop :=
 ∃ (pre : List Pc) (O : List Nat) (x : Pc), m = N - pre.length ∧ pre.length < N ∧ x.p = halvesP w pre.length ∧ J pre O wr ∧ Wk ks W wr ∧ Blk wr b 208 x.cells ∧ x.Dv wr ∧ b ∈ O ∧ (∀ q ∈ O, W.heap.size ≤ q)
theorem hv_zero {w : Nat} (h : HvP w 0) : Wd (halfRoot T0.one w).1 400 3 ∧ Wd (halfRoot T0.one w).2 400 3 := ⟨h.ok.cl.wd, h.ok.ch.wd⟩
theorem hv_succ {w j : Nat} (h : HvP w (j + 1)) : Wd (halfRoot (iadd T0.one (halvesP w j).1) w).1 400 3 ∧ Wd (halfRoot (iadd T0.one (halvesP w j).1) w).2 400 3 ∧ Wd (halfRoot (iadd T0.one (iflip (halvesP w j).1)) w).1 400 3 ∧ Wd (halfRoot (iadd T0.one (iflip (halvesP w j).1)) w).2 400 3 := ⟨h.ok.cl.wd, h.ok.ch.wd, h.ok.sl.wd, h.ok.sh.wd⟩
theorem half_parts {a : Iv} {w : Nat} : rootV (ishift a (-1)).1 w false = (halfRoot a w).1 ∧ rootV (ishift a (-1)).2 w true = (halfRoot a w).2 := ⟨rfl, rfl⟩
theorem set12_fr (w : World) (b : Nat) (v0 v1 v2 v3 v4 v5 v6 v7 v8 v9 va vb : Value) : (set12 w b v0 v1 v2 v3 v4 v5 v6 v7 v8 v9 va vb).os = w.os ∧ (set12 w b v0 v1 v2 v3 v4 v5 v6 v7 v8 v9 va vb).tape = w.tape ∧ (set12 w b v0 v1 v2 v3 v4 v5 v6 v7 v8 v9 va vb).output = w.output := by
 unfold set12
 simp only [World.setCell, and_self]
theorem half_step {J : List Pc → List Nat → World → Prop} {ks : List Nat} {W w6 w13 : World} {w N b4 : Nat} {pre : List Pc} {O : List Nat} {x x' : Pc} {v0 v1 v2 v3 v4 v5 v6 v7 v8 v9 va vb : Value} (hp : x'.p = halvesP w (pre.length + 1))
  (HW : Wk ks W w6) (K6 : Blk w6 b4 208 x.cells) (KZ : Blk w13 b4 208 x.cells) (hok : OkP x.p) (HH : Bel w6 w13) (hc : x'.cells = [v0, v1, v2, v3, v4, v5, v6, v7, v8, v9, va, vb]) (M : x'.Dv w13)
  (hJ : V1.Abides (J (pre ++ [x]))) (HJ : J (pre ++ [x]) O w6) (hbO : b4 ∈ O) (hO : ∀ q ∈ O, W.heap.size ≤ q) (HL : pre.length + 1 < N) :
  At J ks W w N b4 (N - (pre.length + 1)) (set12 w13 b4 v0 v1 v2 v3 v4 v5 v6 v7 v8 v9 va vb) := by
 have hN6 := ni_pc K6 hok
 have hN13 := ni_pc KZ hok
 have hW4 := hO b4 hbO
 have hsz0 := HH.size
 obtain ⟨u0, u1, u2, u3, u4, u5, u6, u7, u8, u9, ua, ub, hx⟩ : ∃ u0 u1 u2 u3 u4 u5 u6 u7 u8 u9 ua ub, x.cells = [u0, u1, u2, u3, u4, u5, u6, u7, u8, u9, ua, ub] := ⟨_, _, _, _, _, _, _, _, _, _, _, _, rfl⟩
 rw [hx] at KZ
 have KF := blk_set12 KZ v0 v1 v2 v3 v4 v5 v6 v7 v8 v9 va vb
 rw [← hc] at KF
 have hoth : ∀ k, k ≠ b4 → (set12 w13 b4 v0 v1 v2 v3 v4 v5 v6 v7 v8 v9 va vb).heap[k]? = w13.heap[k]? := fun k hne => set12_other hne _ _ _ _ _ _ _ _ _ _ _ _
 have hsz : w6.heap.size ≤ (set12 w13 b4 v0 v1 v2 v3 v4 v5 v6 v7 v8 v9 va vb).heap.size := by rw [set12_size]; exact hsz0
 have hfr : (set12 w13 b4 v0 v1 v2 v3 v4 v5 v6 v7 v8 v9 va vb).os = w6.os ∧ (set12 w13 b4 v0 v1 v2 v3 v4 v5 v6 v7 v8 v9 va vb).tape = w6.tape ∧ (set12 w13 b4 v0 v1 v2 v3 v4 v5 v6 v7 v8 v9 va vb).output = w6.output := by
  obtain ⟨e1, e2, e3⟩ := set12_fr w13 b4 v0 v1 v2 v3 v4 v5 v6 v7 v8 v9 va vb
  exact ⟨e1.trans HH.out.os, e2.trans HH.out.tape, e3.trans HH.out.output⟩
 obtain ⟨wf, hwf⟩ : ∃ wf, set12 w13 b4 v0 v1 v2 v3 v4 v5 v6 v7 v8 v9 va vb = wf := ⟨_, rfl⟩
 rw [hwf] at KF hoth hsz hfr ⊢
 have DF : x'.Dv wf := M.keep fun k hk => by
  by_cases e : k = b4
  ·subst e; exact .inr hN13
  ·exact .inl (hoth k e)
 have ho6 : ∀ k, k < w6.heap.size → k ≠ b4 → wf.heap[k]? = w6.heap[k]? := fun k hk hne => (hoth k hne).trans (HH.out.block k hk)
 have hst : St O w6 wf := ⟨hfr.1, hfr.2.1, hfr.2.2, hsz, fun k hk => by
  by_cases e : k = b4
  ·subst e; exact .inr ⟨hbO, hN6⟩
  ·exact .inl (ho6 k hk e)⟩
 have hJf := hJ O w6 O wf HJ hst (fun _ h => h) (fun _ h => .inl h)
 have hwkf : Wk ks W wf := ⟨Nat.le_trans HW.size hsz, fun k hk => (HW.block k hk).imp (fun e => (ho6 k (Nat.lt_of_lt_of_le hk HW.size) (by omega)).trans e) id⟩
 exact ⟨pre ++ [x], O, x', by simp, by simp; exact HL, by rw [List.length_append, List.length_singleton]; exact hp, hJf, hwkf, KF, DF, hbO, hO⟩
theorem halves1 {ks : List Nat} {N w bw : Nat} {wi : Int} (n l : Nat) (hn : 1 ≤ n) (W : World) (T : Tab W) (KW : Blk W bw 3 [.int .i64 wi]) (hw : w ≤ 3000) (hwi : (w : Int) = wi) (hkw : bw ∉ ks) (hk2 : 2 ∉ ks) (hN : 1 ≤ N)
  (HP : ∀ j, j < N → HvP w j) (h1s : 0 ≤ sgn (ishift T0.one (-1)).1) :
  SeqB Tryz.prog n l 242 #[.pointer (some ⟨bw, 0, none⟩)] Pc.enc ks N (fun pre x W1 => x.p = halvesP w pre.length ∧ x.Dv W1) (fun _ => False) (fun _ => True) W True := by
 intro J Jx hBd hJ hJx hY h0
 have TT := Ho.mk T
 have HKW := Ho.mk KW
 have HY := Ho.mk hY
 have H0 := Ho.mk h0
 have HB := Ho.mk (hBd trivial)
 have HHP := Ho.mk HP
 have HV0 := Ho.mk (hv_zero (HP 0 (by omega)))
 have HS1 := Ho.mk h1s
 clear T KW hY h0 hBd HP h1s
 refine callsIn_wide.2 ?_
 go_enter Tryz.func242, Tryz.ntmps242
 go_wp2_with fail
 (with_reducible refine (dOne _ TT.out).mono ?_); rintro e w1 ⟨A1, c1, B1, d1, rfl, n1, m1, b1⟩
 go_wp2_with fail
 (with_reducible refine (C4.dHalf (r := halfRoot T0.one w) _ (TT.out.bel b1) n1 m1 (by omega) (by omega) (HKW.out.bel b1) hw hwi HS1.out half_parts.1 HV0.out.1 half_parts.2 HV0.out.2).mono ?_); rintro e w2 ⟨A2, c2, B2, d2, rfl, n2, m2, b2⟩
 go_wp2_with fail
 (with_reducible refine (dOne _ (TT.out.bel (b1.trans b2))).mono ?_); rintro e w3 ⟨A3, c3, B3, d3, rfl, n3, m3, b3⟩
 go_wp2_with fail
 (with_reducible refine (C4.dHalf (r := halfRoot T0.one w) _ (TT.out.bel ((b1.trans b2).trans b3)) n3 m3 (by omega) (by omega) (HKW.out.bel ((b1.trans b2).trans b3)) hw hwi HS1.out half_parts.1 HV0.out.1 half_parts.2 HV0.out.2).mono ?_); rintro e w4 ⟨A4, c4, B4, d4, rfl, n4, m4, b4⟩
 obtain ⟨x, hx⟩ : ∃ x : Pc, x = ⟨A2, c2, B2, d2, A4, c4, B4, d4, halvesP w 0⟩ := ⟨_, rfl⟩
 have bb := ((b1.trans b2).trans b3).trans b4
 have DX := Ho.mk (show x.Dv (w4.alloc (.cells x.cells.toArray 208)) from by
  rw [hx]
  exact ⟨(n2.bel (b3.trans b4)).bel ((Bel.refl _).alloc _), (m2.bel (b3.trans b4)).bel ((Bel.refl _).alloc _), n4.bel ((Bel.refl _).alloc _), m4.bel ((Bel.refl _).alloc _)⟩)
 have KX := Ho.mk (Blk.new w4 x.cells 208)
 have hJ0 := Ho.mk (hJ _ _ _ [w4.heap.size] _ H0.out (St.of_bel (bb.alloc (.cells x.cells.toArray 208)) _) (by simp) (by intro q hq; simp at hq; right; subst hq; have := bb.size; simp only [World.size_alloc]; omega))
 have hw0 := Ho.mk ((Wk.refl ks W).bel (bb.alloc (.cells x.cells.toArray 208)))
 have hb4 : W.heap.size ≤ w4.heap.size := bb.size
 have HX := Ho.mk (show x.p = halvesP w 0 from by rw [hx])
 have hcs : x.cells.toArray = #[.bool (dneg (halfRoot T0.one w).1), .slice A2 (digs (dm (halfRoot T0.one w).1)).length c2, .int .i64 (de (halfRoot T0.one w).1), .bool (dneg (halfRoot T0.one w).2), .slice B2 (digs (dm (halfRoot T0.one w).2)).length d2, .int .i64 (de (halfRoot T0.one w).2), .bool (dneg (halfRoot T0.one w).1), .slice A4 (digs (dm (halfRoot T0.one w).1)).length c4, .int .i64 (de (halfRoot T0.one w).1), .bool (dneg (halfRoot T0.one w).2), .slice B4 (digs (dm (halfRoot T0.one w).2)).length d4, .int .i64 (de (halfRoot T0.one w).2)] := by rw [hx]; rfl
 rw [hcs] at DX KX hJ0 hw0
 clear n1 m1 b1 n2 m2 b2 n3 m3 b3 n4 m4 b4 bb
 go_wp2_with fail
 generalize w4.alloc (.cells #[.bool (dneg (halfRoot T0.one w).1), .slice A2 (digs (dm (halfRoot T0.one w).1)).length c2, .int .i64 (de (halfRoot T0.one w).1), .bool (dneg (halfRoot T0.one w).2), .slice B2 (digs (dm (halfRoot T0.one w).2)).length d2, .int .i64 (de (halfRoot T0.one w).2), .bool (dneg (halfRoot T0.one w).1), .slice A4 (digs (dm (halfRoot T0.one w).1)).length c4, .int .i64 (de (halfRoot T0.one w).1), .bool (dneg (halfRoot T0.one w).2), .slice B4 (digs (dm (halfRoot T0.one w).2)).length d4, .int .i64 (de (halfRoot T0.one w).2)] 208) = w5 at *
 generalize w4.heap.size = b4 at *
 have HRR := Ho.mk (show At J ks W w N b4 (N - 0) w5 from ⟨[], [b4], x, rfl, by simp; omega, HX.out, hJ0.out, hw0.out, KX.out, DX.out, by simp, by intro q hq; simp at hq; omega⟩)
 clear hcs hx
 clear hJ0 hw0 KX DX HX H0 HV0 HS1
 refine (wpIn_wide (n := n)).1 ?_
 gi_loopw [] (fun wr => ∃ m, Ho (At J ks W w N b4 m wr)) (fun wr => leastN (fun m => At J ks W w N b4 m wr))
 case atStart => exact ⟨_, HRR⟩
 case round =>
  clear HRR
  obtain ⟨m0, hrel⟩ := hrel
  obtain ⟨hm1, hm2⟩ := leastN_spec (p := fun m => At J ks W w N b4 m wr) hrel.out
  obtain ⟨pre, O, x, hm, hlen, hx, hj, hwk, hK, hD, hbO, hO⟩ := hm1
  have HM := Ho.mk hm
  have HX := Ho.mk hx
  have HJ := Ho.mk hj
  have HWK := Ho.mk hwk
  have HK := Ho.mk hK
  have HD := Ho.mk hD
  have HL := Ho.mk hlen
  clear hm hx hj hwk hD hlen hrel
  unfold Pc.cells at hK
  have y0 := hK.cell (i := 0) rfl
  have y1 := hK.cell (i := 1) rfl
  have y2 := hK.cell (i := 2) rfl
  have y3 := hK.cell (i := 3) rfl
  have y4 := hK.cell (i := 4) rfl
  have y5 := hK.cell (i := 5) rfl
  have y6 := hK.cell (i := 6) rfl
  have y7 := hK.cell (i := 7) rfl
  have y8 := hK.cell (i := 8) rfl
  have y9 := hK.cell (i := 9) rfl
  have y10 := hK.cell (i := 10) rfl
  have y11 := hK.cell (i := 11) rfl
  clear hK
  gi_wp2_with fail
  have HM2 := Ho.mk hm2
  clear hm2
  obtain ⟨fn, tmps, assign, body, hy, hR⟩ := HY.out pre O x wr HJ.out HL.out ⟨HX.out, HD.out⟩ hO HWK.out.size
  dsimp only [Pc.enc] at hy
  rw [hy]
  gi_wp2
  refine hR.mono ?_
  clear hR hy
  clear y0 y1 y2 y3 y4 y5 y6 y7 y8 y9 y10 y11
  rintro e w6 (⟨rfl, hJ4, hY4⟩ | ⟨rfl, hJ4, hY4⟩)
  ·have HW6 := Ho.mk (HWK.out.yd hY4)
   have T6 := Ho.mk (HW6.out.tab hk2 TT.out)
   have KW6 := Ho.mk (HW6.out.blk hkw HKW.out)
   have K6 := Ho.mk (yd_blk hY4 hbO HK.out)
   have D6 := Ho.mk (HD.out.keepL (by rw [HX.out]; exact (HHP.out pre.length HL.out).lg) hY4.st)
   have hl1 := HB.out _ _ _ hJ4
   rw [List.length_append, List.length_singleton] at hl1
   have HL1 := Ho.mk hl1
   have HV1 := Ho.mk (HHP.out pre.length HL.out)
   have HV2 := Ho.mk (hv_succ (HHP.out (pre.length + 1) hl1))
   have HOK := Ho.mk (HHP.out pre.length HL.out).ok
   have HOK2 := Ho.mk (HHP.out (pre.length + 1) hl1).ok
   have s1 := Ho.mk HV1.out.s1
   have s2 := Ho.mk HV1.out.s2
   rw [← HX.out] at s1 s2 HV2 HOK
   have HJ4 := Ho.mk hJ4
   clear hJ4 hY4 hl1 HV1 HWK HK HD HJ
   have hK := K6.out
   unfold Pc.cells at hK
   have y0 := hK.cell (i := 0) rfl
   have y1 := hK.cell (i := 1) rfl
   have y2 := hK.cell (i := 2) rfl
   have y3 := hK.cell (i := 3) rfl
   have y4 := hK.cell (i := 4) rfl
   have y5 := hK.cell (i := 5) rfl
   have y6 := hK.cell (i := 6) rfl
   have y7 := hK.cell (i := 7) rfl
   have y8 := hK.cell (i := 8) rfl
   have y9 := hK.cell (i := 9) rfl
   have y10 := hK.cell (i := 10) rfl
   have y11 := hK.cell (i := 11) rfl
   clear hK
   gi_wp2_with fail
   refine wpIn_wide.2 ?_
   refine I7.wp_region_late 14 (S := fun w' => Bel w6 w') (by kernel_rfl) (Bel.refl _).drew (fun hHeld => ?_)
   (try dsimp only at hHeld)
   refine I7.kt (i := 0) hHeld ?_
   refine I7.kt (i := 2) hHeld ?_
   refine I7.kl (i := 3) (v := ?_) hHeld (fun w hSw => ?_) ?_
   rotate_left
   ·(have z0 := hSw.cell y0; have z1 := hSw.cell y1; have z2 := hSw.cell y2; have z3 := hSw.cell y3; have z4 := hSw.cell y4; have z5 := hSw.cell y5; go_simp; try (with_reducible rfl))
   refine I7.kt (i := 6) hHeld ?_
   refine I7.kt (i := 8) hHeld ?_
   refine I7.kl (i := 9) (v := ?_) hHeld (fun w hSw => ?_) ?_
   rotate_left
   ·(have z0 := hSw.cell y0; have z1 := hSw.cell y1; have z2 := hSw.cell y2; have z3 := hSw.cell y3; have z4 := hSw.cell y4; have z5 := hSw.cell y5; go_simp; try (with_reducible rfl))
   try simp only [Act.put, List.setIfInBounds_toArray, List.set_cons_zero, List.set_cons_succ]
   refine I7.kc (i := 1) (fun K hK => ?_)
   go_simp
   go_at_call 229
   (with_reducible refine (dOne _ (T6.out.bel hHeld)).mono ?_); rintro e w7 ⟨A1, c1, B1, d1, rfl, n1, m1, b7⟩
   try go_wp2_with fail
   refine hK.out _ _ (Bel.trans hHeld b7) (fun hHeld => ?_)
   clear hK K
   try simp only [Act.put, List.setIfInBounds_toArray, List.set_cons_zero, List.set_cons_succ]
   refine I7.kc (i := 4) (fun K hK => ?_)
   go_simp
   go_at_call 246
   (with_reducible refine (I1.dAdd _ (T6.out.bel hHeld) n1 m1 (by omega) (by omega) (D6.out.k1.bel hHeld) (D6.out.k2.bel hHeld) (by omega) (by omega)).mono ?_); rintro e w8 ⟨A2, c2, B2, d2, rfl, n2, m2, b8⟩
   try go_wp2_with fail
   refine hK.out _ _ (Bel.trans hHeld b8) (fun hHeld => ?_)
   clear hK K
   try simp only [Act.put, List.setIfInBounds_toArray, List.set_cons_zero, List.set_cons_succ]
   refine I7.kc (i := 5) (fun K hK => ?_)
   go_simp
   go_at_call 243
   (with_reducible refine (C4.dHalf (r := halfRoot (iadd T0.one x.p.1) w) _ (T6.out.bel hHeld) n2 m2 (by omega) (by omega) (KW6.out.bel hHeld) hw hwi s1.out half_parts.1 HV2.out.1 half_parts.2 HV2.out.2.1).mono ?_); rintro e w9 ⟨A3, c3, B3, d3, rfl, n3, m3, b9⟩
   try go_wp2_with fail
   refine hK.out _ _ (Bel.trans hHeld b9) (fun hHeld => ?_)
   clear hK K
   try simp only [Act.put, List.setIfInBounds_toArray, List.set_cons_zero, List.set_cons_succ]
   refine I7.kc (i := 7) (fun K hK => ?_)
   go_simp
   go_at_call 229
   (with_reducible refine (dOne _ (T6.out.bel hHeld)).mono ?_); rintro e w10 ⟨A4, c4, B4, d4, rfl, n4, m4, b10⟩
   try go_wp2_with fail
   refine hK.out _ _ (Bel.trans hHeld b10) (fun hHeld => ?_)
   clear hK K
   try simp only [Act.put, List.setIfInBounds_toArray, List.set_cons_zero, List.set_cons_succ]
   refine I7.kc (i := 10) (fun K hK => ?_)
   go_simp
   go_at_call 212
   (with_reducible refine (I1.dFlip _ (T6.out.bel hHeld) (D6.out.k1.bel hHeld) (D6.out.k2.bel hHeld) (by omega) (by omega)).mono ?_); rintro e w11 ⟨A5, c5, B5, d5, rfl, n5, m5, b11⟩
   try go_wp2_with fail
   refine hK.out _ _ (Bel.trans hHeld b11) (fun hHeld => ?_)
   clear hK K
   try simp only [Act.put, List.setIfInBounds_toArray, List.set_cons_zero, List.set_cons_succ]
   refine I7.kc (i := 11) (fun K hK => ?_)
   go_simp
   go_at_call 246
   (with_reducible refine (I1.dAdd _ (T6.out.bel hHeld) (n4.bel b11) (m4.bel b11) (by omega) (by omega) n5 m5 (by omega) (by omega)).mono ?_); rintro e w12 ⟨A6, c6, B6, d6, rfl, n6, m6, b12⟩
   try go_wp2_with fail
   refine hK.out _ _ (Bel.trans hHeld b12) (fun hHeld => ?_)
   clear hK K
   try simp only [Act.put, List.setIfInBounds_toArray, List.set_cons_zero, List.set_cons_succ]
   refine I7.kc (i := 12) (fun K hK => ?_)
   go_simp
   go_at_call 243
   (with_reducible refine (C4.dHalf (r := halfRoot (iadd T0.one (iflip x.p.1)) w) _ (T6.out.bel hHeld) n6 m6 (by omega) (by omega) (KW6.out.bel hHeld) hw hwi s2.out half_parts.1 HV2.out.2.2.1 half_parts.2 HV2.out.2.2.2).mono ?_); rintro e w13 ⟨A7, c7, B7, d7, rfl, n7, m7, b13⟩
   try go_wp2_with fail
   refine hK.out _ _ (Bel.trans hHeld b13) (fun hHeld => ?_)
   clear hK K
   refine I7.kt (i := 13) hHeld ?_
   have KZ := Ho.mk (K6.out.bel hHeld)
   have HH := Ho.mk hHeld
   have M1 := Ho.mk (n3.bel (((b10.trans b11).trans b12).trans b13))
   have M2 := Ho.mk (m3.bel (((b10.trans b11).trans b12).trans b13))
   have M3 := Ho.mk n7
   have M4 := Ho.mk m7
   clear y0 y1 y2 y3 y4 y5 y6 y7 y8 y9 y10 y11 hHeld n1 m1 n2 m2 n3 m3 n4 m4 n5 m5 n6 m6 n7 m7 b7 b8 b9 b10 b11 b12 b13
   have hK := KZ.out
   unfold Pc.cells at hK
   have y0 := hK.cell (i := 0) rfl
   have y1 := hK.cell (i := 1) rfl
   have y2 := hK.cell (i := 2) rfl
   have y3 := hK.cell (i := 3) rfl
   have y4 := hK.cell (i := 4) rfl
   have y5 := hK.cell (i := 5) rfl
   have y6 := hK.cell (i := 6) rfl
   have y7 := hK.cell (i := 7) rfl
   have y8 := hK.cell (i := 8) rfl
   have y9 := hK.cell (i := 9) rfl
   have y10 := hK.cell (i := 10) rfl
   have y11 := hK.cell (i := 11) rfl
   have z0 := hK.free 0
   have z1 := hK.free 1
   have z2 := hK.free 2
   have z3 := hK.free 3
   have z4 := hK.free 4
   have z5 := hK.free 5
   have z6 := hK.free 6
   have z7 := hK.free 7
   have z8 := hK.free 8
   have z9 := hK.free 9
   have z10 := hK.free 10
   have z11 := hK.free 11
   clear hK
   try simp only [Act.put, List.setIfInBounds_toArray, List.set_cons_zero, List.set_cons_succ]
   refine I7.ke (i := 14) (fun K hK => ?_)
   go_simp
   refine hK.out _ _ ?_
   clear hK K
   try simp only [Act.put, List.setIfInBounds_toArray, List.set_cons_zero, List.set_cons_succ]
   refine wpAny_done (by kernel_rfl) ?_ _
   have hpn : ((halfRoot (iadd T0.one x.p.1) w, halfRoot (iadd T0.one (iflip x.p.1)) w) : Pt) = halvesP w (pre.length + 1) := by rw [HX.out]; rfl
   have hAt := Ho.mk (half_step (x' := ⟨A3, c3, B3, d3, A7, c7, B7, d7, (halfRoot (iadd T0.one x.p.1) w, halfRoot (iadd T0.one (iflip x.p.1)) w)⟩) hpn HW6.out K6.out KZ.out HOK.out HH.out rfl ⟨M1.out, M2.out, M3.out, M4.out⟩ (hJ _) HJ4.out hbO hO HL1.out)
   obtain ⟨wf, hwf⟩ : ∃ wf, set12 w13 b4 (.bool (dneg (halfRoot (iadd T0.one x.p.1) w).1)) (.slice A3 (digs (dm (halfRoot (iadd T0.one x.p.1) w).1)).length c3) (.int .i64 (de (halfRoot (iadd T0.one x.p.1) w).1)) (.bool (dneg (halfRoot (iadd T0.one x.p.1) w).2)) (.slice B3 (digs (dm (halfRoot (iadd T0.one x.p.1) w).2)).length d3) (.int .i64 (de (halfRoot (iadd T0.one x.p.1) w).2)) (.bool (dneg (halfRoot (iadd T0.one (iflip x.p.1)) w).1)) (.slice A7 (digs (dm (halfRoot (iadd T0.one (iflip x.p.1)) w).1)).length c7) (.int .i64 (de (halfRoot (iadd T0.one (iflip x.p.1)) w).1)) (.bool (dneg (halfRoot (iadd T0.one (iflip x.p.1)) w).2)) (.slice B7 (digs (dm (halfRoot (iadd T0.one (iflip x.p.1)) w).2)).length d7) (.int .i64 (de (halfRoot (iadd T0.one (iflip x.p.1)) w).2)) = wf := ⟨_, rfl⟩
   rw [hwf] at hAt
   have hls : leastN (fun m => At J ks W w N b4 m wf) < leastN (fun m => At J ks W w N b4 m wr) := by
    have h1 := (leastN_spec (p := fun m => At J ks W w N b4 m wf) hAt.out).2 _ hAt.out
    have h2 := HM.out
    have h3 := HL1.out
    omega
   have HLS := Ho.mk hls
   clear hls hpn
   unfold set12 at hwf
   rw [hwf]
   clear hwf
   gi_wp2
   go_roundw
   case rel => exact ⟨_, hAt⟩
   case measure => exact HLS.out
  ·gi_wp2
   --@@
   go_end0
   exact ⟨⟨_, rfl⟩, .inr ⟨_, O, trivial, hJ4, hO⟩⟩
end C5
namespace Nd
open Go.RowKit Go.Shelf Go.Proofs Go.Proofs.YtnbdoidccacdnaaGreatDoor Ow Pl
attribute [local go_sem] Oper.semAt_some
def upto {α : Type} (f : Nat → α) (k : Nat) : List α := (List.range k).map f
theorem upto_succ {α : Type} (f : Nat → α) (k : Nat) : upto f (k + 1) = upto f k ++ [f k] := by simp [upto, List.range_succ]
theorem upto_length {α : Type} (f : Nat → α) (k : Nat) : (upto f k).length = k := by simp [upto]
def back (l : List Int) (t : Nat) : Int × Int := ((l.length - 1 - t : Nat), nth l (l.length - 1 - t))
structure Kx (m b : Nat) (W W' : World) : Prop where
 blk : ∀ k, k < m → k ≠ b → W'.heap[k]? = W.heap[k]?
theorem Kx.refl (m b : Nat) (W : World) : Kx m b W W := ⟨fun _ _ _ => rfl⟩
theorem Kx.trans {m b : Nat} {A B C : World} (h : Kx m b A B) (k : Kx m b B C) : Kx m b A C := ⟨fun i h1 h2 => (k.blk i h1 h2).trans (h.blk i h1 h2)⟩
theorem Kx.cell {m b : Nat} {A B : World} (h : Kx m b A B) {p : Addr} (h1 : p.block < m) (h2 : p.block ≠ b) : B.cell? p = A.cell? p := by
 unfold World.cell?; rw [h.blk _ h1 h2]
theorem Kx.put {m b : Nat} {w : World} (hm : m ≤ w.heap.size) (W : World) (l : Nat) (o o' : Obj) (hl : w.heap.size ≤ l) : Kx m b W (W.putObj l o') :=
 ⟨fun k h1 _ => World.putObj_heap_other (by omega)⟩
theorem rd_kx {m b n₀ : Nat} {W W' : World} {A : Option Addr} {l : List Int} (h : RdB n₀ W A l) (k : Kx m b W W') (h1 : n₀ ≤ m) (h2 : n₀ ≤ b) : Rd W' A l :=
 ⟨h.rd.max, fun j hj => by
  obtain ⟨ad, e, hc⟩ := h.rd.cell j hj
  have := h.lt ad e (by omega)
  exact ⟨ad, e, (k.cell (by rw [add_block]; omega) (by rw [add_block]; omega)).trans hc⟩⟩
theorem back1_in (F : Fence) (n : Nat) (h51 : F.fn 233) (hro : F.round = none) (hn : 1 ≤ n) (lp Bs n₀ m b c : Nat) (hm1 : n₀ ≤ m) (hm2 : n₀ ≤ b) (A : Option Addr) (l : List Int) (hml : l.length ≤ 35184372088831) (J Jx : List (Int × Int) → World → Prop)
  (hY : ∀ pre x W, J pre W → pre.length < l.length → YieldAt F (n - 1) Tryz.prog lp #[.int .i64 x.1, .int .i64 x.2] W fun e W' =>
   (e = .returned (.bool true) ∧ J (pre ++ [x]) W' ∧ Kx m b W W') ∨ (e = .returned (.bool false) ∧ Jx (pre ++ [x]) W'))
  (W : World) (hBs : W.cell? ⟨Bs, 0, none⟩ = some (.slice A l.length c)) (hBn : Bs < m) (hBb : Bs ≠ b) (hl : RdB n₀ W A l) (h0 : J [] W) :
  CallsIn F n Tryz.prog 233 #[.func (.yield lp) #[] #[], .pointer (some ⟨Bs, 0, none⟩)] W fun e W' => (∃ v, e = .returned v) ∧
   ((∃ ys, ys = upto (back l) l.length ∧ J ys W') ∨ (∃ pre, (∃ k, k ≤ l.length ∧ pre = upto (back l) k) ∧ Jx pre W')) := by
 refine callsIn_of_wp Tryz.func233 rfl h51 ?_ hro
 simp only [Tryz.ntmps233, List.size_toArray, List.length_cons, List.length_nil, Nat.reduceAdd, Nat.reduceSub, Array.replicate_succ, Array.replicate_zero, List.push_toArray, List.append_toArray, List.nil_append, List.cons_append]
 have HL := Ho.mk hl
 clear hl
 gi_wp2
 gi_loopw [3] (fun i wr => ∃ (k : Nat) (j : Int), k ≤ l.length ∧ i = .int .i64 j ∧ -1 ≤ j ∧ j < l.length ∧ Ho (j = (l.length : Int) - 1 - k) ∧ J (upto (back l) k) wr ∧ Kx m b W wr)
  (fun i _ => (intOf i + 1).toNat)
 case atStart => exact ⟨0, _, Nat.zero_le _, rfl, by omega, by omega, ⟨by omega⟩, h0, Kx.refl _ _ _⟩
 case round =>
  obtain ⟨k, j, hk, rfl, hj0, hj1, hjk, hJs, hnx⟩ := hrel
  have hBs' : wr.cell? ⟨Bs, 0, none⟩ = some (.slice A l.length c) := (hnx.cell (p := ⟨Bs, 0, none⟩) hBn hBb).trans hBs
  rcases Int.lt_or_le j 0 with hneg | hpos
  ·have hkl : Ho (k = l.length) := ⟨by have := hjk.out; omega⟩
   gi_wp2
   go_end0
   rw [hkl.out] at hJs
   exact ⟨⟨_, rfl⟩, .inl ⟨_, rfl, hJs⟩⟩
  ·obtain ⟨t, rfl⟩ := Int.eq_ofNat_of_zero_le hpos
   have htk : Ho (back l k = ((t : Int), nth l t)) := ⟨by
    have : t = l.length - 1 - k := by have := hjk.out; omega
    rw [this]; rfl⟩
   have hkl : k < l.length := by have := hjk.out; omega
   have htl : t < l.length := by omega
   obtain ⟨ad, rfl, x0⟩ := (rd_kx HL.out hnx hm1 hm2).cell t htl
   obtain ⟨fn, tmps, assign, body, hy, hR⟩ := hY _ ((t : Int), nth l t) wr hJs (by rw [upto_length]; exact hkl)
   dsimp only at hy
   gi_wp2
   refine hR.mono ?_
   rintro e W3 (⟨rfl, hJ3, hk3⟩ | ⟨rfl, hJx3⟩)
   ·gi_wp2
    go_roundw
    case rel => exact ⟨k + 1, (t : Int) - 1, by omega, rfl, by omega, by omega, ⟨by have := hjk.out; omega⟩, by rw [upto_succ, htk.out]; exact hJ3, hnx.trans hk3⟩
    case measure => simp [intOf]
   ·gi_wp2
    refine bodyPost_ret (results_none rfl _ _ _) rfl ?_
    exact ⟨⟨_, rfl⟩, .inr ⟨_, ⟨k + 1, by omega, by rw [upto_succ, htk.out]⟩, hJx3⟩⟩
theorem back_in (F : Fence) (n : Nat) (h : F.fn 218) (hro : F.round = none) (a : Option Addr) (len cap : Nat) (w : World) :
  CallsIn F n Tryz.prog 218 #[.slice a len cap] w fun e w' => e = .returned (.func (.func 233) #[] #[.pointer (some ⟨w.heap.size, 0, none⟩)]) ∧ w' = w.alloc (.cells #[.slice a len cap] 38) := by
 refine callsIn_of_wp Tryz.func218 rfl h ?_ hro
 simp only [Tryz.ntmps218, List.size_toArray, List.length_cons, List.length_nil, Nat.reduceAdd, Nat.reduceSub, Array.replicate_succ, Array.replicate_zero, List.push_toArray, List.append_toArray, List.nil_append, List.cons_append]
 gi_wp2
 go_ret
 exact ⟨rfl, rfl⟩
theorem back_stops (F : Fence) (n : Nat) (h51 : F.fn 233) (hro : F.round = none) (hn : 1 ≤ n) (Bs n₀ m b c : Nat) (hm1 : n₀ ≤ m) (hm2 : n₀ ≤ b) (A : Option Addr) (l : List Int) (hml : l.length ≤ 35184372088831) (w : World) (hm : m ≤ w.heap.size)
  (hBs : w.cell? ⟨Bs, 0, none⟩ = some (.slice A l.length c)) (hBn : Bs < m) (hBb : Bs ≠ b) (hl : RdB n₀ w A l) :
  SeqStopsK F n Tryz.prog 233 #[.pointer (some ⟨Bs, 0, none⟩)] (fun x : Int × Int => #[Value.int .i64 x.1, Value.int .i64 x.2]) (Kx m b) (fun ys => ys = upto (back l) l.length)
   (fun pre => ∃ k, k ≤ l.length ∧ pre = upto (back l) k) l.length w := fun lp J Jx W hW _ _ hY h0 =>
 back1_in F n h51 hro hn lp Bs n₀ m b c hm1 hm2 A l hml J Jx hY W ((hW.cell (p := ⟨Bs, 0, none⟩) (by simp only; omega)).trans hBs) hBn hBb ⟨hl.below (hW.mono (by omega)), hl.lt⟩ h0
def stepI (n x : Int) : Int := bits .or .i64 (wrap64 (n * 16777216)) x
def foldI (pre : List (Int × Int)) : Int := pre.foldl (fun n x => stepI n x.2) 0
theorem foldI_snoc (pre : List (Int × Int)) (x : Int × Int) : foldI (pre ++ [x]) = stepI (foldI pre) x.2 := by simp [foldI]
theorem foldI_upto (l : List Int) (hl : Lims l) (hv : val l < 4611686018427387904) : ∀ k, k ≤ l.length → foldI (upto (back l) k) = val (l.drop (l.length - k)) := by
 intro k
 induction k with
 | zero => intro _; simp [upto, foldI, val]
 | succ k ih =>
  intro hk
  have e := ih (by omega)
  have hd := drop_step l (l.length - (k + 1))
  rw [show l.length - (k + 1) + 1 = l.length - k from by omega] at hd
  rw [upto_succ, foldI_snoc, e, hd]
  show stepI (val (l.drop (l.length - k))) (nth l (l.length - 1 - k)) = _
  rw [show l.length - 1 - k = l.length - (k + 1) from by omega]
  have h1 := val_drop_le hl (l.length - (k + 1))
  rw [hd] at h1
  have h2 := hl.nth (l.length - (k + 1))
  have h3 := val_nonneg (hl.drop (l.length - k))
  generalize val (l.drop (l.length - k)) = v at h1 h3 ⊢
  generalize nth l (l.length - (k + 1)) = x at h1 h2 ⊢
  unfold stepI
  rw [wrap_id (by omega) (by omega), show bits .or .i64 (v * 16777216) x = bits .or .i64 x (v * 16777216) from by simp only [bits, BitVec.or_comm], or_low 24 (by decide) h2.1 (by omega) (by omega) (by omega) (by omega)]
  omega
theorem intYes_in (F : Fence) (n : Nat) (h18 : F.fn 199) (h26 : F.fn 188) (h41 : F.fn 218) (h51 : F.fn 233) (hro : F.round = none) (hn : 3 ≤ n) (A : Option Addr) (c x : Nat) (w : World) (h : Rd w A (digs x)) (hx : blen x ≤ 62)
  (hlen : ∀ W, Rd W A (digs x) → CallsIn F (n - 1) Tryz.prog 188 #[.slice A (digs x).length c] W fun e w' => e = .returned (.int .i64 (blen x)) ∧ W = w') :
  CallsIn F n Tryz.prog 199 #[.slice A (digs x).length c] w fun e W' => e = .returned (.tuple #[.int .i64 (x : Int), .bool true]) ∧ Bel w W' := by
 have h1 : 1 ≤ n := by omega
 have hm := h.max
 have HV : Ho (foldI (upto (back (digs x)) (digs x).length) = (x : Int)) := ⟨by
  have hv : val (digs x) < 4611686018427387904 := by
   rw [digs_val]; have := blen_le.1 hx; have e : (2 : Nat) ^ 62 = 4611686018427387904 := by decide
   omega
  rw [foldI_upto _ (digs_can x).1 hv _ (Nat.le_refl _), Nat.sub_self, List.drop_zero, digs_val]⟩
 have hd : decide (((blen x : Nat) : Int) > 62) = false := decide_eq_false (by omega)
 have HC := Ho.mk hlen
 have HR := Ho.mk h.rdB
 clear hlen hx
 generalize digs x = l at *
 generalize blen x = bl at *
 refine callsIn_of_wp_marks Tryz.func199 rfl h18 ?_ hro
 simp only [Tryz.ntmps199, List.size_toArray, List.length_cons, List.length_nil, Nat.reduceAdd, Nat.reduceSub, Array.replicate_succ, Array.replicate_zero, List.push_toArray, List.append_toArray, List.nil_append, List.cons_append]
 gi_wp2_with (first | (gi_at_call 188; refine (HC.out _ HR.out.rd).mono ?_; rintro e w' ⟨rfl, rfl⟩) | (gi_at_call 218; refine (back_in F (n - 1) h41 hro _ _ _ _).mono ?_; rintro e w' ⟨rfl, rfl⟩))
 have bS := Boxed.new w 3 (.int .i64 0)
 have bN := Boxed.new (w.alloc (.cells #[.int .i64 0] 3)) 38 (.slice A l.length c)
 rw [World.size_alloc] at bN
 have hB0 : Below w.heap.size w ((w.alloc (.cells #[.int .i64 0] 3)).alloc (.cells #[.slice A l.length c] 38)) := ((Below.refl _ w).alloc (Nat.le_refl _) _).alloc (by simp) _
 refine wpIn_rangeFunc_ownF hro h1 (gf := 233) (lb := #[.pointer (some ⟨w.heap.size + 1, 0, none⟩)]) rfl h51 (enters_of Tryz.func233 (by kernel_rfl) rfl)
  (back_stops F (n - 1) h51 hro (by omega) (w.heap.size + 1) w.heap.size (w.heap.size + 2) w.heap.size c (by omega) (Nat.le_refl _) A l hm _ (by simp) bN.cell (by omega) (by omega) ⟨HR.out.below hB0, HR.out.lt⟩)
  Kx.trans (fun W l' o o' hl' _ _ _ => Kx.put (by simp) W l' o o' hl') (Below.refl _ _) (fun _ => rfl)
  (fun pre W => (W.cell? ⟨w.heap.size, 0, none⟩ = some (.int .i64 (foldI pre)) ∧ W.frozen? ⟨w.heap.size, 0, none⟩ = false) ∧ Below w.heap.size w W)
  (fun _ _ _ => False)
  (OwnFrom.and (Go.Own.from (fun s A B row hs hg hr => ⟨cell_kept hs.1 hg hr, (frozen_kept hs.1 hg hr).trans hs.2⟩) _) (ownFrom_below (Nat.le_refl _) (by simp; omega)))
  (fun _ _ _ _ _ hs _ _ => hs)
  ⟨⟨(bS.alloc _).cell, (bS.alloc _).frozen⟩, hB0⟩
  (fun y => { tmps := #[.slice A l.length c, undef, .int .i64 0, .bool false, .pointer (some ⟨w.heap.size, 0, none⟩), undef, .int .i64 y.2, .slice A l.length c, .int .i64 bl, .bool false, .slice A l.length c, .func (.func 233) #[] #[.pointer (some ⟨w.heap.size + 1, 0, none⟩)], .int .i64 y.1, .int .i64 y.2, undef, undef, undef, undef, undef], defers := [] }) ?assign ?body ?done ?stop
 case assign =>
  intro l' y W K hK
  gi_wp2
  exact hK
 case body =>
  rintro l' pre y W ⟨⟨hc, hf⟩, hB⟩ _
  gi_wp2
  exact ⟨KeepsOthers.setCell _ _ _, ⟨fun k _ hne => Below.heap_setCell _ _ _ _ hne⟩, ⟨by rw [foldI_snoc]; exact World.cell?_setCell_same' _ _ _ (by rw [hc]; rfl), by rw [World.frozen?_setCell]; exact hf⟩, hB.setCell (p := ⟨w.heap.size, 0, none⟩) (Nat.le_refl _) _⟩
 case done =>
  rintro D ys W hD rfl ⟨⟨hc, _⟩, hB⟩ hK
  rw [HV.out] at hc
  gi_wp2
  refine ⟨by simp, .inl ⟨_, _, rfl, run_takeDeferred hK, ?_⟩⟩
  exact ⟨.tuple #[.int .i64 (x : Int), .bool true], by simp [results, Tryz.f199, go_sem], rfl, ⟨hB.trans (belowK_b (w := w) (Nat.le_refl _) W D _ _ (by simp at hD; omega) hK rfl rfl)⟩⟩
 case stop =>
  rintro D c pre W _ _ h _
  exact h.elim
theorem intYes_calls (A : Option Addr) (c x : Nat) (w : World) (h : Rd w A (digs x)) (hx : blen x ≤ 62) :
  Calls Tryz.prog 199 #[.slice A (digs x).length c] w fun e w' => e = .returned (.tuple #[.int .i64 (x : Int), .bool true]) ∧ Bel w w' :=
 callsIn_wide.1 (intYes_in Fence.wide 3 trivial trivial trivial trivial rfl (Nat.le_refl _) A c x w h hx fun W g => callsIn_wide.2 (N6.natLen_calls A c x W g))
end Nd
namespace G6
open Ieee Go Go.RowKit Go.Proofs.YtnbdoidccacdnaaGreatDoor Ow Pl Dp Gp G1 G2 F1
theorem blen53 {y : Nat} (h : y ≤ 2 * bn) : blen y ≤ 62 := blen_le.2 (Nat.lt_of_le_of_lt h (by decide))
theorem and_1 {W : Nat} (h : W ≤ 2 * bn) : bits .and .i64 (W : Int) 1 = ((W % 2 : Nat) : Int) := by
 have := i64_and_nat W 1 (Nat.lt_of_le_of_lt h (by decide)) (by decide)
 rw [show (1 : Nat) = 2 ^ 1 - 1 from rfl, mask_mod] at this
 exact this
theorem rhe_parts {x k W r : Nat} (hk : 1 ≤ k) (hW : W = x / 2 ^ k) (hr : r = x - W * 2 ^ k) : W * 2 ^ k ≤ x ∧
  (cmpI (r : Int) ((2 ^ (k - 1) : Nat) : Int) = -1 → rhe x k = W) ∧ (cmpI (r : Int) ((2 ^ (k - 1) : Nat) : Int) = 0 → rhe x k = W + W % 2) ∧ (cmpI (r : Int) ((2 ^ (k - 1) : Nat) : Int) = 1 → rhe x k = W + 1) := by
 have h1 := Nat.div_add_mod x (2 ^ k)
 rw [← hW, Nat.mul_comm] at h1
 have h2 : x % 2 ^ k = r := by omega
 have h3 : 2 ^ k = 2 * 2 ^ (k - 1) := by rw [← Nat.pow_succ']; congr 1; omega
 generalize W * 2 ^ k = q at *
 unfold rhe cmpI
 rw [← hW, h2, h3]
 clear hW h3 hk
 generalize 2 ^ (k - 1) = z at *
 rcases Nat.lt_trichotomy r z with q1 | q1 | q1
 ·rw [if_pos (show (r : Int) < (z : Int) by omega)]
  refine ⟨by omega, fun _ => ?_, fun h => absurd h (by decide), fun h => absurd h (by decide)⟩
  rw [if_neg (by omega), if_neg (by omega)]; rfl
 ·rw [if_neg (show ¬ (r : Int) < (z : Int) by omega), if_neg (show ¬ (z : Int) < (r : Int) by omega)]
  refine ⟨by omega, fun h => absurd h (by decide), fun _ => ?_, fun h => absurd h (by decide)⟩
  rw [if_neg (by omega), if_pos (by omega)]
 ·rw [if_neg (show ¬ (r : Int) < (z : Int) by omega), if_pos (show (z : Int) < (r : Int) by omega)]
  refine ⟨by omega, fun h => absurd h (by decide), fun h => absurd h (by decide), fun _ => ?_⟩
  rw [if_pos (by omega)]
section
variable {A : Option Addr} {c x : Nat} {k : Int} {w : World}
theorem nearUp_calls {n kn : Nat} (h : Rd w A (digs x)) (hc : (digs x).length ≤ c) (hx : (digs x).length ≤ 1000) (hk : k ≤ 0) (hkn : kn = (-k).toNat) (hk0 : -20000 ≤ k) (hn : n = x * 2 ^ kn) (hb : n ≤ 2 * bn) :
  Calls Tryz.prog 189 #[.slice A (digs x).length c, .int .i64 k] w (Tells w (.float .f64 (floatOfInt .f64 (n : Int)))) := by
 have SL := Ho.mk (N9.shl_calls A c x kn (-k) w h hc (by omega) hkn (by omega))
 rw [← hn] at SL
 have IN := Ho.mk (fun (A : Option Addr) (c : Nat) (W : World) (g : Rd W A (digs n)) => Nd.intYes_calls A c n W g (blen53 hb))
 clear hn hb h hc hx hkn
 generalize digs x = l0 at *
 generalize digs n = l1 at *
 generalize (n : Int) = ni at *
 go_enter Tryz.func189, Tryz.ntmps189
 go_wp2_with fail
 (with_reducible refine SL.out.mono ?_); rintro _ w1 ⟨A1, c1, rfl, hc1, hr1, hb1⟩
 go_wp2_with fail
 (with_reducible refine (IN.out _ _ _ hr1).mono ?_); rintro _ w2 ⟨rfl, hb2⟩
 have HB := Ho.mk (hb1.trans hb2)
 clear hr1 hb1 hb2
 go_wp2
 go_ret
 exact ⟨rfl, HB.out⟩
theorem nearDn_calls {n kn : Nat} (h : Rd w A (digs x)) (hc : (digs x).length ≤ c) (hx : (digs x).length ≤ 1000) (hk : 0 < k) (hkn : kn = k.toNat) (hk1 : k ≤ 20000) (hn : n = rhe x kn) (hb : n ≤ 2 * bn) :
  Calls Tryz.prog 189 #[.slice A (digs x).length c, .int .i64 k] w (Tells w (.float .f64 (floatOfInt .f64 (n : Int)))) := by
 obtain ⟨W, hW⟩ : ∃ W, W = x / 2 ^ kn := ⟨_, rfl⟩
 obtain ⟨r, hr⟩ : ∃ r, r = x - W * 2 ^ kn := ⟨_, rfl⟩
 obtain ⟨p0, p1, p2, p3⟩ := rhe_parts (by omega) hW hr
 obtain ⟨H, hH⟩ : ∃ H, H = 1 * 2 ^ (kn - 1) := ⟨_, rfl⟩
 rw [← Nat.one_mul (2 ^ (kn - 1)), ← hH] at p1 p2 p3
 have hWb : W ≤ 2 * bn := by
  rw [hn] at hb
  rw [hW]; unfold rhe at hb; omega
 have hl2 : (digs (W * 2 ^ kn)).length ≤ (digs x).length := digs_len_le.2 (Nat.lt_of_le_of_lt p0 (digs_len_le.1 (Nat.le_refl _)))
 have hl1 : (digs W).length ≤ (digs x).length := by
  refine digs_len_le.2 (Nat.lt_of_le_of_lt ?_ (digs_len_le.1 (Nat.le_refl _)))
  rw [hW]; exact Nat.div_le_self _ _
 have ha := and_1 hWb
 have SR := Ho.mk (Na.shr_calls A c x kn k w h hc (by omega) hkn (by omega))
 rw [← hW] at SR
 have IN := Ho.mk (fun (A : Option Addr) (c : Nat) (V : World) (g : Rd V A (digs W)) => Nd.intYes_calls A c W V g (blen53 hWb))
 have SL := Ho.mk (fun (A : Option Addr) (c : Nat) (V : World) (g : Rd V A (digs W)) (gc : (digs W).length ≤ c) => N9.shl_calls A c W kn k V g gc (by omega) hkn (by omega))
 have SB := Ho.mk (fun (A1 : Option Addr) (c1 : Nat) (V : World) (b : Bel w V) (g : Rd V A1 (digs (W * 2 ^ kn))) (gc : (digs (W * 2 ^ kn)).length ≤ c1) => N5.sub_calls A A1 c c1 x (W * 2 ^ kn) V (h.bel b) hc g gc (by omega) p0)
 rw [← hr] at SB
 have OF := Ho.mk (fun (V : World) => R2.natOf_calls 1 1 V rfl (by omega))
 have hd1 : (digs 1).length ≤ 1 := digs_len_le.2 (by decide)
 have SH := Ho.mk (fun (A : Option Addr) (c : Nat) (V : World) (g : Rd V A (digs 1)) (gc : (digs 1).length ≤ c) => N9.shl_calls A c 1 (kn - 1) (k - 1) V g gc (by omega) (by omega) (by omega))
 rw [← hH] at SH
 have hWi : (W : Int) ≤ 9007199254740992 := by
  have : 2 * bn = 9007199254740992 := rfl
  omega
 have hW0 : (0 : Int) ≤ (W : Int) := by omega
 have CM := Ho.mk (fun (A B : Option Addr) (c d : Nat) (V : World) (g : Rd V A (digs r)) (g' : Rd V B (digs H)) => N5.cmp_calls A B c d r H V g g')
 have hcr := Ho.mk (F4.cmp_range (r : Int) (H : Int))
 have HP1 := Ho.mk p1
 have HP2 := Ho.mk p2
 have HP3 := Ho.mk p3
 rw [← hn] at HP1 HP2 HP3
 clear hn hb h hx hkn hW hr p0 p1 p2 p3 hH hWb hl1 hl2 hd1
 generalize cmpI (r : Int) (H : Int) = cv at *
 have q1 : IntKind.i64.wrap (k - 1) = k - 1 := IntWalk.i64_in _ (by omega)
 have HN : Ho ((n : Int) = (if cv = -1 then (W : Int) else if cv = 0 then (W : Int) + ((W % 2 : Nat) : Int) else (W : Int) + 1)) := ⟨by
  have := hcr.out
  by_cases z1 : cv = -1
  ·rw [if_pos z1, HP1.out z1]
  ·rw [if_neg z1]
   by_cases z2 : cv = 0
   ·rw [if_pos z2, HP2.out z2]; omega
   ·rw [if_neg z2, HP3.out (by omega)]; omega⟩
 have hm2 : ((W % 2 : Nat) : Int) = 0 ∨ ((W % 2 : Nat) : Int) = 1 := by omega
 clear HP1 HP2 HP3
 generalize ((W % 2 : Nat) : Int) = par at *
 generalize (W : Int) = wi at *
 generalize (n : Int) = ni at *
 generalize digs x = l0 at *
 generalize digs (W * 2 ^ kn) = l2 at *
 generalize digs W = l1 at *
 generalize digs r = l3 at *
 generalize digs H = l5 at *
 generalize digs 1 = l4 at *
 have hcv : cv = -1 ∨ cv = 0 ∨ cv = 1 := by have := hcr.out; omega
 clear hcr
 go_enter Tryz.func189, Tryz.ntmps189
 go_wp2_with fail
 (with_reducible refine SR.out.mono ?_); rintro _ wa ⟨A1, c1, rfl, hc1, hr1, hb1⟩
 go_wp2_with fail
 (with_reducible refine (IN.out _ _ _ hr1).mono ?_); rintro _ wb ⟨rfl, hb2⟩
 go_wp2_with fail
 (with_reducible refine (SL.out _ _ _ (hr1.bel hb2) hc1).mono ?_); rintro _ wc ⟨A2, c2, rfl, hc2, hr2, hb3⟩
 go_wp2_with fail
 (with_reducible refine (SB.out _ _ _ ((hb1.trans hb2).trans hb3) hr2 hc2).mono ?_); rintro _ wd ⟨A3, c3, rfl, hc3, hr3, hb4⟩
 go_wp2_with fail
 (with_reducible refine (OF.out _).mono ?_); rintro _ we ⟨A4, c4, rfl, hc4, hr4, hb5⟩
 go_wp2_with fail
 (with_reducible refine (SH.out _ _ _ hr4 hc4).mono ?_); rintro _ wf ⟨A5, c5, rfl, hc5, hr5, hb6⟩
 go_wp2_with fail
 (with_reducible refine (CM.out _ _ _ _ _ (hr3.bel (hb5.trans hb6)) hr5).mono ?_); rintro _ wg ⟨rfl, hd⟩
 have HB := Ho.mk ((((hb1.trans hb2).trans hb3).trans hb4).trans (hb5.trans hb6))
 have HG : Ho (Bel w wg) := ⟨by obtain ⟨j, rfl⟩ := hd; exact HB.out.drewN j⟩
 clear hd HB hb1 hb2 hb3 hb4 hb5 hb6 hr1 hr2 hr3 hr4 hr5 SR IN SL SB OF SH CM
 rcases hcv with rfl | rfl | rfl
 ·go_wp2
  go_ret
  exact ⟨by rw [HN.out]; rfl, HG.out⟩
 ·rcases hm2 with rfl | rfl
  ·go_wp2
   go_ret
   exact ⟨by rw [HN.out]; simp, HG.out⟩
  ·go_wp2
   go_ret
   exact ⟨by rw [HN.out]; rfl, HG.out⟩
 ·go_wp2
  go_ret
  exact ⟨by rw [HN.out]; rfl, HG.out⟩
theorem nearest_calls {n : Nat} (h : Rd w A (digs x)) (hc : (digs x).length ≤ c) (hx : (digs x).length ≤ 1000) (hk0 : -20000 ≤ k) (hk1 : k ≤ 20000) (hn : n = if k ≤ 0 then x * 2 ^ (-k).toNat else rhe x k.toNat) (hb : n ≤ 2 * bn) :
  Calls Tryz.prog 189 #[.slice A (digs x).length c, .int .i64 k] w (Tells w (.float .f64 (floatOfInt .f64 (n : Int)))) := by
 by_cases hk : k ≤ 0
 ·rw [if_pos hk] at hn
  exact nearUp_calls h hc hx hk rfl hk0 hn hb
 ·rw [if_neg hk] at hn
  exact nearDn_calls h hc hx (by omega) rfl hk1 hn hb
end
end G6
namespace G7
open Ieee Go Go.RowKit Go.Proofs.YtnbdoidccacdnaaGreatDoor Ow Pl Dp Gp Gq G1 G2 F1
theorem top_blen {v : Int} (h : v ≠ 0) : de v + Nat.log2 (dm v) = de v + (blen (dm v) : Int) - 1 := by
 rw [blen_pos (fun c => h (dm_zero.1 c))]; omega
section
variable {A : Option Addr} {c L U : Nat} {v : Int} {w : World}
theorem mid_calls (h : Dv w A c v L U) (hL : L ≤ 10000) (hU : U ≤ 10000) (h0 : v ≠ 0) (t0 : -1080 ≤ de v + (blen (dm v) : Int) - 1) (t1 : de v + (blen (dm v) : Int) - 1 ≤ 1023) :
  Calls Tryz.prog 180 #[.agg #[.bool (dneg v), .slice A (digs (dm v)).length c, .int .i64 (de v)]] w (Tells w (.float .f64 (nw v))) := by
 have ht := top_blen h0
 obtain ⟨q, hq⟩ : ∃ q, q = max (de v + (blen (dm v) : Int) - 1 - 52) (-1074) := ⟨_, rfl⟩
 obtain ⟨n, hn⟩ : ∃ n, n = if q ≤ de v then dm v * 2 ^ (de v - q).toNat else rhe (dm v) (q - de v).toNat := ⟨_, rfl⟩
 obtain ⟨m1, m2, m3, m4⟩ := near_mid h0 (by rw [ht]; exact t0) (by rw [ht]; exact t1) q (by rw [ht]; exact hq) n hn
 have hle := h.len (by omega)
 have e0 := h.e0 (by omega)
 have e1 := h.e1 (by omega)
 have q0 : -1074 ≤ q := by omega
 have q1 : q ≤ 971 := by omega
 have e2 := h.wd.e_ge
 have e3 := h.wd.e_le
 have LN := Ho.mk (fun (W : World) (g : Bel w W) => N6.natLen_calls A c (dm v) W (h.rd.bel g))
 have NR := Ho.mk (fun (W : World) (g : Bel w W) => G6.nearest_calls (k := q - de v) (n := n) (h.rd.bel g) h.cap hle (by omega) (by omega) (by
  rw [hn]
  by_cases z : q ≤ de v
  ·rw [if_pos z, if_pos (by omega), show -(q - de v) = de v - q by omega]
  ·rw [if_neg z, if_neg (by omega)]) m3)
 have LD := Ho.mk (fun (W : World) => ldexpN_calls m3 q0 q1 m4 (nr_le v) W)
 have hl0 : ¬ (digs (dm v)).length = 0 := fun z => h0 (dm_zero.1 (digs_nil.1 (List.length_eq_zero_iff.1 z)))
 have hm := mul_sign (dneg v) (nr_le v) false
 rw [Bool.xor_false, ← m1, word_eq false, if_neg (by decide)] at hm
 have bq : (((digs (dm v)).length : Int) == 0) = false := beq_eq_false_iff_ne.2 (by omega)
 have b1 : (blen (dm v) : Int) ≤ 100000 := by
  have := blen_le.2 (h.wd.m_lt (by unfold K; omega))
  omega
 have b0 : 0 ≤ (blen (dm v) : Int) := by omega
 clear hn m1 m2 m3 m4 h hle h0 ht hl0
 generalize floatOfInt .f64 (n : Int) = fw at *
 generalize nr v = rw at *
 generalize nw v = res at *
 generalize (blen (dm v) : Int) = bl at *
 generalize digs (dm v) = l at *
 generalize de v = ev at *
 generalize dneg v = nb at *
 have hq2 : (q = -1074 ∧ ev + bl - 1 - 52 < -1074) ∨ (q = ev + bl - 1 - 52 ∧ -1074 ≤ ev + bl - 1 - 52) := by omega
 clear hq
 cases nb
 ·rw [word_eq, if_neg (by decide)] at hm
  have hm2 : ∀ t w, (binOp .mul t (.float .f64 4607182418800017408) (.float .f64 rw)).run Tryz.prog w = .ok (.float .f64 res) w := fun t w => run_float_arith w .mul t .f64 _ _ res hm
  clear hm
  rcases hq2 with ⟨rfl, z⟩ | ⟨rfl, z⟩
  all_goals
   go_enter Tryz.func180, Tryz.ntmps180
   go_wp2_with fail
   go_quiet ((go_at_call 188; (with_reducible refine (LN.out _ (((Bel.refl w).alloc _).drewN _)).mono ?_); rintro e w' ⟨rfl, rfl⟩; exact ⟨rfl, _, rfl⟩))
   go_wp2_with first
    | (go_at_call 189; (with_reducible refine (NR.out _ (((Bel.refl w).alloc _).drewN _)).mono ?_); rintro _ w2 ⟨rfl, hb2⟩; have HB := Ho.mk ((((Bel.refl w).alloc _).drewN _).trans hb2); clear hb2)
    | (go_at_call 186; (with_reducible refine (LD.out _).mono ?_); rintro _ _ ⟨rfl, rfl⟩)
    | (simp only [hm2])
   go_ret
   exact ⟨rfl, HB.out⟩
 ·rw [word_eq, if_pos rfl] at hm
  have hm2 : ∀ t w, (binOp .mul t (.float .f64 13830554455654793216) (.float .f64 rw)).run Tryz.prog w = .ok (.float .f64 res) w := fun t w => run_float_arith w .mul t .f64 _ _ res hm
  clear hm
  rcases hq2 with ⟨rfl, z⟩ | ⟨rfl, z⟩
  all_goals
   go_enter Tryz.func180, Tryz.ntmps180
   go_wp2_with fail
   go_quiet ((go_at_call 188; (with_reducible refine (LN.out _ (((Bel.refl w).alloc _).drewN _)).mono ?_); rintro e w' ⟨rfl, rfl⟩; exact ⟨rfl, _, rfl⟩))
   go_wp2_with first
    | (go_at_call 189; (with_reducible refine (NR.out _ (((Bel.refl w).alloc _).drewN _)).mono ?_); rintro _ w2 ⟨rfl, hb2⟩; have HB := Ho.mk ((((Bel.refl w).alloc _).drewN _).trans hb2); clear hb2)
    | (go_at_call 186; (with_reducible refine (LD.out _).mono ?_); rintro _ _ ⟨rfl, rfl⟩)
    | (simp only [hm2])
   go_ret
   exact ⟨rfl, HB.out⟩
theorem zero_calls (h : Dv w A c 0 L U) :
  Calls Tryz.prog 180 #[.agg #[.bool (dneg 0), .slice A (digs (dm 0)).length c, .int .i64 (de 0)]] w (Tells w (.float .f64 (nw 0))) := by
 have LN : Ho (∀ W, Bel w W → Calls Tryz.prog 188 #[.slice A 0 c] W fun e w' => e = .returned (.int .i64 0) ∧ W = w') := ⟨fun W g => by
  have := N6.natLen_calls A c (dm 0) W (h.rd.bel g)
  rw [show dm 0 = 0 from odd_zero, digs_zero, blen_zero] at this; exact this⟩
 rw [show nw 0 = 0 from rfl, show dm 0 = 0 from odd_zero, digs_zero, de_zero, dneg_zero, List.length_nil]
 clear h
 go_enter Tryz.func180, Tryz.ntmps180
 go_wp2_with fail
 go_quiet ((go_at_call 188; (with_reducible refine (LN.out _ (((Bel.refl w).alloc _).drewN _)).mono ?_); rintro e w' ⟨rfl, rfl⟩; exact ⟨rfl, _, rfl⟩))
 go_wp2
 go_ret
 exact ⟨rfl, ((Bel.refl w).alloc _).drewN _⟩
theorem low_calls (h : Dv w A c v L U) (hL : L ≤ 10000) (hU : U ≤ 10000) (h0 : v ≠ 0) (t0 : de v + (blen (dm v) : Int) - 1 < -1080) :
  Calls Tryz.prog 180 #[.agg #[.bool (dneg v), .slice A (digs (dm v)).length c, .int .i64 (de v)]] w (Tells w (.float .f64 (nw v))) := by
 have ht := top_blen h0
 have e0 := h.e0 (by omega)
 have e1 := h.e1 (by omega)
 have LN := Ho.mk (fun (W : World) (g : Bel w W) => N6.natLen_calls A c (dm v) W (h.rd.bel g))
 have b1 : (blen (dm v) : Int) ≤ 100000 := by
  have := blen_le.2 (h.wd.m_lt (by unfold K; omega))
  omega
 have b0 : 0 ≤ (blen (dm v) : Int) := by omega
 have hl0 : ¬ (digs (dm v)).length = 0 := fun z => h0 (dm_zero.1 (digs_nil.1 (List.length_eq_zero_iff.1 z)))
 have bq : (((digs (dm v)).length : Int) == 0) = false := beq_eq_false_iff_ne.2 (by omega)
 have hn : nw v = 0 := by unfold nw; rw [if_pos (.inr (by rw [ht]; exact t0))]
 rw [hn]
 clear hn h h0 ht hl0
 generalize (blen (dm v) : Int) = bl at *
 generalize digs (dm v) = l at *
 generalize de v = ev at *
 generalize dneg v = nb at *
 cases nb
 all_goals
  go_enter Tryz.func180, Tryz.ntmps180
  go_wp2_with fail
  go_quiet ((go_at_call 188; (with_reducible refine (LN.out _ (((Bel.refl w).alloc _).drewN _)).mono ?_); rintro e w' ⟨rfl, rfl⟩; exact ⟨rfl, _, rfl⟩))
  go_wp2
  go_ret
  exact ⟨rfl, ((Bel.refl w).alloc _).drewN _⟩
theorem high_calls (h : Dv w A c v L U) (hL : L ≤ 10000) (hU : U ≤ 10000) (h0 : v ≠ 0) (t1 : 1023 < de v + (blen (dm v) : Int) - 1) :
  Calls Tryz.prog 180 #[.agg #[.bool (dneg v), .slice A (digs (dm v)).length c, .int .i64 (de v)]] w (Tells w (.float .f64 (nw v))) := by
 have ht := top_blen h0
 have e0 := h.e0 (by omega)
 have e1 := h.e1 (by omega)
 have LN := Ho.mk (fun (W : World) (g : Bel w W) => N6.natLen_calls A c (dm v) W (h.rd.bel g))
 have b1 : (blen (dm v) : Int) ≤ 100000 := by
  have := blen_le.2 (h.wd.m_lt (by unfold K; omega))
  omega
 have b0 : 0 ≤ (blen (dm v) : Int) := by omega
 have hl0 : ¬ (digs (dm v)).length = 0 := fun z => h0 (dm_zero.1 (digs_nil.1 (List.length_eq_zero_iff.1 z)))
 have bq : (((digs (dm v)).length : Int) == 0) = false := beq_eq_false_iff_ne.2 (by omega)
 have hn : nw v = double.word (dneg v) infR := near_top (by rw [ht]; exact t1) h0
 rw [hn]
 clear hn h h0 ht hl0
 generalize (blen (dm v) : Int) = bl at *
 generalize digs (dm v) = l at *
 generalize de v = ev at *
 generalize dneg v = nb at *
 have I1 := Ho.mk (inf_calls 1)
 have I2 := Ho.mk (inf_calls (-1))
 have c1 : ∀ w, (convert 50 3 (.float .f64 4607182418800017408)).run Tryz.prog w = .ok (.int .i64 1) w := fun w => run_convert_float_int w 50 3 .f64 .i64 _ 1 (by kernel_rfl) (by kernel_rfl) (by kernel_rfl)
 have c2 : ∀ w, (convert 50 3 (.float .f64 13830554455654793216)).run Tryz.prog w = .ok (.int .i64 (-1)) w := fun w => run_convert_float_int w 50 3 .f64 .i64 _ (-1) (by kernel_rfl) (by kernel_rfl) (by kernel_rfl)
 cases nb
 all_goals
  go_enter Tryz.func180, Tryz.ntmps180
  go_wp2_with fail
  go_quiet ((go_at_call 188; (with_reducible refine (LN.out _ (((Bel.refl w).alloc _).drewN _)).mono ?_); rintro e w' ⟨rfl, rfl⟩; exact ⟨rfl, _, rfl⟩))
  go_wp2_with first
   | (go_at_call 185; (first | (with_reducible refine (I1.out _).mono ?_) | (with_reducible refine (I2.out _).mono ?_)); rintro _ _ ⟨rfl, rfl⟩)
   | (simp only [c1])
   | (simp only [c2])
  go_ret
  exact ⟨rfl, ((Bel.refl w).alloc _).drewN _⟩
theorem near_calls (h : Dv w A c v L U) (hL : L ≤ 10000) (hU : U ≤ 10000) :
  Calls Tryz.prog 180 #[.agg #[.bool (dneg v), .slice A (digs (dm v)).length c, .int .i64 (de v)]] w (Tells w (.float .f64 (nw v))) := by
 by_cases h0 : v = 0
 ·subst h0; exact zero_calls h
 ·by_cases t0 : de v + (blen (dm v) : Int) - 1 < -1080
  ·exact low_calls h hL hU h0 t0
  ·by_cases t1 : 1023 < de v + (blen (dm v) : Int) - 1
   ·exact high_calls h hL hU h0 t1
   ·exact mid_calls h hL hU h0 (by omega) (by omega)
end
end G7
namespace G9
open Ieee Go Go.RowKit Go.Proofs.YtnbdoidccacdnaaGreatDoor Ow Pl Dp Gp Gq G1 G2 F1 G6 G7
theorem xor_top {r : Nat} (h : r < sgnW) : r ^^^ 2 ^ 63 = sgnW + r := by
 have e : sgnW = 2 ^ 63 := rfl
 apply Nat.eq_of_testBit_eq
 intro i
 rw [Nat.testBit_xor, Nat.testBit_two_pow, e]
 rcases Nat.lt_trichotomy i 63 with q | q | q
 ·rw [Nat.testBit_two_pow_add_gt q, decide_eq_false (by omega), Bool.xor_false]
 ·subst q
  rw [Nat.testBit_two_pow_add_eq, decide_eq_true rfl, Bool.xor_true]
 ·have h1 : r < 2 ^ i := Nat.lt_of_lt_of_le h (by rw [e]; exact Nat.pow_le_pow_right (by decide) (by omega))
  have h2 : 2 ^ 63 + r < 2 ^ i := by
   have : (2 : Nat) ^ 64 ≤ 2 ^ i := Nat.pow_le_pow_right (by decide) (by omega)
   have e2 : (2 : Nat) ^ 64 = 2 ^ 63 + 2 ^ 63 := rfl
   rw [e] at h; omega
  rw [Nat.testBit_lt_two_pow h1, Nat.testBit_lt_two_pow h2, decide_eq_false (by omega)]; rfl
theorem neg_word (n : Bool) {r : Nat} (h : r < sgnW) : Op.negFloat .f64 (double.word n r) = double.word (!n) r := by
 show double.word n r ^^^ 2 ^ 63 = _
 rw [word_eq, word_eq]
 cases n
 ·rw [if_neg (by decide), if_pos (by decide), xor_top h]
 ·rw [if_pos rfl, if_neg (by decide), ← xor_top h, Nat.xor_assoc, Nat.xor_self, Nat.xor_zero]
end G9
namespace W0
open Ieee Go Go.RowKit Go.Proofs.YtnbdoidccacdnaaGreatDoor Ow Gp Gq Gr G1 G2 G3 G4 G9
def qn : Nat := 9221120237041090561
def cn (b : Nat) : Nat := if infR < frung b then qn else if frung b = 0 then 0 else b
theorem cn_lt {b : Nat} (h : b < 2 * sgnW) : cn b < 2 * sgnW := by
 unfold cn; split
 ·decide
 ·split
  ·decide
  ·exact h
theorem cn_qn : cn qn = qn := by decide
theorem cn_zero : cn 0 = 0 := by decide
theorem cn_nan {b : Nat} (h : infR < frung b) : cn b = qn := by unfold cn; rw [if_pos h]
theorem cn_idem (b : Nat) : cn (cn b) = cn b := by
 by_cases h : infR < frung b
 ·rw [cn_nan h, cn_qn]
 ·by_cases h0 : frung b = 0
  ·have : cn b = 0 := by unfold cn; rw [if_neg h, if_pos h0]
   rw [this, cn_zero]
  ·have : cn b = b := by unfold cn; rw [if_neg h, if_neg h0]
   rw [this, this]
def dq : Datum → Datum → Prop
 | .nan _ _, .nan _ _ => True
 | .infinity s, .infinity t => s = t
 | .number s m e, .number t n f => e = f ∧ m = n ∧ (m = 0 ∨ s = t)
 | _, _ => False
theorem dq_refl (d : Datum) : dq d d := by cases d <;> simp [dq]
theorem read_cn {b : Nat} (h : b < 2 * sgnW) : dq (double.read b) (double.read (cn b)) := by
 by_cases h1 : infR < frung b
 ·rw [cn_nan h1, read_nan h h1, show double.read qn = .nan false (qn - infR) from by decide]; trivial
 ·by_cases h0 : frung b = 0
  ·have e : cn b = 0 := by unfold cn; rw [if_neg h1, if_pos h0]
   rw [e, read_fin h (by rw [h0]; decide), read_fin (b := 0) (by decide) (by decide), h0]
   refine ⟨rfl, rfl, .inl rfl⟩
  ·have e : cn b = b := by unfold cn; rw [if_neg h1, if_neg h0]
   rw [e]; exact dq_refl _
theorem word_parts (s : Bool) {r : Nat} (h : r ≤ infR) : cn (double.word s r) = if r = 0 then 0 else double.word s r := by
 have hl : r < sgnW := Nat.lt_of_le_of_lt h infR_lt
 obtain ⟨h1, h2⟩ := word_neg s hl
 unfold cn
 rw [h2, if_neg (by omega)]
theorem write_dq {x y : Datum} (h : dq x y) (hx : ∀ s m, x ≠ .nan s m) : cn (double.write x) = cn (double.write y) := by
 cases x with
 | nan s m => exact (hx s m rfl).elim
 | infinity s => cases y <;> simp [dq] at h; rw [h]
 | number s m e =>
  cases y with
  | number t n f =>
   obtain ⟨rfl, rfl, h⟩ := h
   rcases h with rfl | rfl
   ·show cn (double.nearest s 0 e) = cn (double.nearest t 0 e)
    unfold Format.nearest
    rw [if_pos rfl, if_pos rfl, word_parts s (Nat.zero_le _), word_parts t (Nat.zero_le _), if_pos rfl, if_pos rfl]
   ·rfl
  | infinity s => exact h.elim
  | nan s m => exact h.elim
def told : Option Datum → Nat
 | some d => cn (double.write d)
 | none => qn
def odq : Option Datum → Option Datum → Prop
 | some x, some y => dq x y ∧ ∀ s m, x ≠ .nan s m
 | none, none => True
 | _, _ => False
theorem told_odq {x y : Option Datum} (h : odq x y) : told x = told y := by
 cases x with
 | none => cases y with
  | none => rfl
  | some d => exact h.elim
 | some d => cases y with
  | none => exact h.elim
  | some e => exact write_dq h.1 h.2
theorem signed_zero (s : Bool) (k : Nat) : signed s 0 k = 0 := by unfold signed; simp
theorem sum_dq {x x' y y' : Datum} (h : dq x x') (k : dq y y') : odq (x.sum y) (x'.sum y') := by
 cases x <;> cases x' <;> simp [dq] at h <;> cases y <;> cases y' <;> simp [dq] at k <;> try (simp [Datum.sum, odq, dq]; done)
 ·rename_i s m e t n f s2 m2 e2 t2 n2 f2
  obtain ⟨rfl, rfl, h⟩ := h
  obtain ⟨rfl, rfl, k⟩ := k
  have e1 : signed s m (e - min e e2).toNat = signed t m (e - min e e2).toNat := by
   rcases h with rfl | rfl
   ·rw [signed_zero, signed_zero]
   ·rfl
  have e3 : signed s2 m2 (e2 - min e e2).toNat = signed t2 m2 (e2 - min e e2).toNat := by
   rcases k with rfl | rfl
   ·rw [signed_zero, signed_zero]
   ·rfl
  simp only [Datum.sum, odq, dq, e1, e3]
  refine ⟨⟨trivial, trivial, ?_⟩, by simp⟩
  by_cases h0 : signed t m (e - min e e2).toNat + signed t2 m2 (e2 - min e e2).toNat = 0
  ·left; rw [h0]; rfl
  ·right; rw [if_neg h0, if_neg h0]
 ·rename_i s m e t n f s2 t2
  subst k; simp [Datum.sum, odq, dq]
 ·rename_i s t s2 m e t2 n f
  subst h; simp [Datum.sum, odq, dq]
 ·rename_i s t s2 t2
  subst h; subst k
  simp only [Datum.sum]
  split <;> simp [odq, dq]
theorem prod_dq {x x' y y' : Datum} (h : dq x x') (k : dq y y') : odq (x.product y) (x'.product y') := by
 cases x <;> cases x' <;> simp [dq] at h <;> cases y <;> cases y' <;> simp [dq] at k <;> try (simp [Datum.product, odq, dq]; done)
 ·rename_i s m e t n f s2 m2 e2 t2 n2 f2
  obtain ⟨rfl, rfl, h⟩ := h
  obtain ⟨rfl, rfl, k⟩ := k
  simp only [Datum.product, odq, dq]
  refine ⟨⟨trivial, trivial, ?_⟩, by simp⟩
  rcases h with rfl | rfl
  ·left; simp
  ·rcases k with rfl | rfl
   ·left; simp
   ·right; rfl
 ·rename_i s m e t n f s2 t2
  subst k
  obtain ⟨rfl, rfl, h⟩ := h
  simp only [Datum.product]
  by_cases h0 : m = 0
  ·rw [if_pos h0, if_pos h0]; trivial
  ·rw [if_neg h0, if_neg h0]
   rcases h with h | h
   ·exact (h0 h).elim
   ·rw [h]; simp [odq, dq]
 ·rename_i s t s2 m e t2 n f
  subst h
  obtain ⟨rfl, rfl, k⟩ := k
  simp only [Datum.product]
  by_cases h0 : m = 0
  ·rw [if_pos h0, if_pos h0]; trivial
  ·rw [if_neg h0, if_neg h0]
   rcases k with k | k
   ·exact (h0 k).elim
   ·rw [k]; simp [odq, dq]
 ·rename_i s t s2 t2
  subst h; subst k
  simp [Datum.product, odq, dq]
theorem opp_dq {x x' : Datum} (h : dq x x') : dq x.opposite x'.opposite := by
 cases x <;> cases x' <;> simp [dq] at h <;> simp [Datum.opposite, dq]
 ·obtain ⟨rfl, rfl, h⟩ := h
  exact ⟨rfl, rfl, h⟩
 ·exact h
def fadd (x y : Nat) : Nat := told ((double.read x).sum (double.read y))
def fsub (x y : Nat) : Nat := told ((double.read x).sum (double.read y).opposite)
def fmul (x y : Nat) : Nat := told ((double.read x).product (double.read y))
theorem fadd_cn {a b : Nat} (ha : a < 2 * sgnW) (hb : b < 2 * sgnW) : fadd (cn a) (cn b) = fadd a b := (told_odq (sum_dq (read_cn ha) (read_cn hb))).symm
theorem fsub_cn {a b : Nat} (ha : a < 2 * sgnW) (hb : b < 2 * sgnW) : fsub (cn a) (cn b) = fsub a b := (told_odq (sum_dq (read_cn ha) (opp_dq (read_cn hb)))).symm
theorem fmul_cn {a b : Nat} (ha : a < 2 * sgnW) (hb : b < 2 * sgnW) : fmul (cn a) (cn b) = fmul a b := (told_odq (prod_dq (read_cn ha) (read_cn hb))).symm
theorem write_lt (d : Datum) : double.write d < 2 * sgnW := double.write_lt d
theorem nan_cn (t : Nat) (q : Question) (h : q.cut t = (t % 2) * 2 ^ 63 + 0x7ff0000000000000 + 1 + (t / 2) % (2 ^ 52 - 1)) : q.cut t < 2 * sgnW ∧ cn (q.cut t) = qn := by
 have h1 : t / 2 % (2 ^ 52 - 1) < 2 ^ 52 - 1 := Nat.mod_lt _ (by decide)
 have h2 : t % 2 < 2 := Nat.mod_lt _ (by decide)
 have e52 : (2 : Nat) ^ 52 = 4503599627370496 := by decide
 have e63 : (2 : Nat) ^ 63 = 9223372036854775808 := by decide
 have e : sgnW = 9223372036854775808 := rfl
 rw [h]
 rw [e52] at *
 rw [e63] at *
 generalize t / 2 % (4503599627370496 - 1) = z at *
 generalize t % 2 = y at *
 refine ⟨by omega, cn_nan ?_⟩
 unfold frung infR
 rw [e]
 rcases (show y = 0 ∨ y = 1 by omega) with rfl | rfl <;> omega
theorem run_fop {P : Program} (op : BinOp) (f : Nat → Nat → Option Datum) (hf : ∀ x y, floatBits op .f64 x y = (f x y).map double.write) (hop : op = .add ∨ op = .sub ∨ op = .mul ∨ op = .quo) (t : TypeId) (a b : Nat) (w : World) :
  ∃ r w', (binOp op t (.float .f64 a) (.float .f64 b)).run P w = .ok (.float .f64 r) w' ∧ (w' = w ∨ w' = w.drew) ∧ r < 2 * sgnW ∧ cn r = told (f a b) := by
 have hf' := hf a b
 cases hd : f a b with
 | some d =>
  rw [hd] at hf'
  exact ⟨double.write d, w, run_float_arith w op t .f64 a b _ hf', .inl rfl, write_lt d, rfl⟩
 | none =>
  rw [hd] at hf'
  obtain ⟨h1, h2⟩ := nan_cn (w.tape w.drawn (.nanBits .f64 a b)) (.nanBits .f64 a b) rfl
  refine ⟨_, w.drew, ?_, .inr rfl, h1, h2⟩
  rcases hop with rfl | rfl | rfl | rfl
  all_goals
   simp only [floatBits, Option.map_none] at hf'
   simp [binOp, Op.floatArith, hf', run_choose_drew, Question.forced]
theorem drew_bel (w : World) {w' : World} (h : w' = w ∨ w' = w.drew) : Bel w w' := by
 rcases h with rfl | rfl
 ·exact Bel.refl _
 ·exact (Bel.refl _).drew
theorem run_fadd {P : Program} (t : TypeId) {a b : Nat} (ha : a < 2 * sgnW) (hb : b < 2 * sgnW) (w : World) :
  ∃ r w', (binOp .add t (.float .f64 a) (.float .f64 b)).run P w = .ok (.float .f64 r) w' ∧ (w' = w ∨ w' = w.drew) ∧ r < 2 * sgnW ∧ cn r = fadd (cn a) (cn b) := by
 obtain ⟨r, w', h1, h2, h3, h4⟩ := run_fop (P := P) .add (fun x y => (double.read x).sum (double.read y)) (fun _ _ => rfl) (.inl rfl) t a b w
 exact ⟨r, w', h1, h2, h3, by rw [fadd_cn ha hb]; exact h4⟩
theorem run_fsub {P : Program} (t : TypeId) {a b : Nat} (ha : a < 2 * sgnW) (hb : b < 2 * sgnW) (w : World) :
  ∃ r w', (binOp .sub t (.float .f64 a) (.float .f64 b)).run P w = .ok (.float .f64 r) w' ∧ (w' = w ∨ w' = w.drew) ∧ r < 2 * sgnW ∧ cn r = fsub (cn a) (cn b) := by
 obtain ⟨r, w', h1, h2, h3, h4⟩ := run_fop (P := P) .sub (fun x y => (double.read x).sum (double.read y).opposite) (fun _ _ => rfl) (.inr (.inl rfl)) t a b w
 exact ⟨r, w', h1, h2, h3, by rw [fsub_cn ha hb]; exact h4⟩
theorem run_fmul {P : Program} (t : TypeId) {a b : Nat} (ha : a < 2 * sgnW) (hb : b < 2 * sgnW) (w : World) :
  ∃ r w', (binOp .mul t (.float .f64 a) (.float .f64 b)).run P w = .ok (.float .f64 r) w' ∧ (w' = w ∨ w' = w.drew) ∧ r < 2 * sgnW ∧ cn r = fmul (cn a) (cn b) := by
 obtain ⟨r, w', h1, h2, h3, h4⟩ := run_fop (P := P) .mul (fun x y => (double.read x).product (double.read y)) (fun _ _ => rfl) (.inr (.inr (.inl rfl))) t a b w
 exact ⟨r, w', h1, h2, h3, by rw [fmul_cn ha hb]; exact h4⟩
def fng (x : Nat) : Nat := cn (Op.negFloat .f64 x)
theorem xor_top' (b : Nat) (h : b < 2 * sgnW) : Op.negFloat .f64 b = double.word (!fneg b) (frung b) := by
 have := neg_word (fneg b) (word_split h).2
 rw [← (word_split h).1] at this; exact this
theorem fng_lt' {b : Nat} (h : b < 2 * sgnW) : Op.negFloat .f64 b < 2 * sgnW := by
 rw [xor_top' b h]; exact word_lt2 _ (word_split h).2
theorem neg_cn {b : Nat} (h : b < 2 * sgnW) : cn (Op.negFloat .f64 b) = fng (cn b) := by
 unfold fng
 have hs := (word_split h).2
 by_cases h1 : infR < frung b
 ·rw [cn_nan h1, xor_top' b h, cn_nan (by rw [(word_neg _ hs).2]; exact h1)]; decide
 ·by_cases h0 : frung b = 0
  ·have e : cn b = 0 := by unfold cn; rw [if_neg h1, if_pos h0]
   rw [e, xor_top' b h, h0, word_parts _ (Nat.zero_le _), if_pos rfl]; decide
  ·have e : cn b = b := by unfold cn; rw [if_neg h1, if_neg h0]
   rw [e]
theorem cn_fng (x : Nat) : cn (fng x) = fng x := cn_idem _
theorem fng_lt {x : Nat} (h : x < 2 * sgnW) : fng x < 2 * sgnW := cn_lt (fng_lt' h)
theorem V_inj {a b : Nat} (ha : a < 2 * sgnW) (hb : b < 2 * sgnW) (h : V a = V b) (h0 : frung a ≠ 0) : a = b := by
 have e1 := (word_split ha).1
 have e2 := (word_split hb).1
 have hm : mag (frung a) = mag (frung b) := by
  have := congrArg Int.natAbs h
  rwa [V_sv, V_sv, sv_abs, sv_abs] at this
 have hr := mag_inj hm
 have hpos : 0 < mag (frung a) := by
  have := mag_lt.2 (Nat.pos_of_ne_zero h0)
  omega
 have hn : fneg a = fneg b := by
  rw [V_sv, V_sv, ← hm] at h
  unfold sv at h
  cases hA : fneg a <;> cases hB : fneg b <;> simp [hA, hB] at h <;> first | rfl | omega
 rw [e1, e2, hr, hn]
theorem alike_cn {a b : Nat} (ha : a < 2 * sgnW) (hb : b < 2 * sgnW) : alike a b = decide (cn a = cn b) := by
 unfold alike
 by_cases n1 : infR < frung a
 ·have o1 := order_nan ha hb (.inl n1)
  have o2 := order_nan ha ha (.inl n1)
  rw [show FloatKind.f64.format.order a b = none from o1, show FloatKind.f64.format.order a a = none from o2]
  by_cases n2 : infR < frung b
  ·rw [show FloatKind.f64.format.order b b = none from order_nan hb hb (.inl n2), cn_nan n1, cn_nan n2]; rfl
  ·rw [show FloatKind.f64.format.order b b = some (compare (V b) (V b)) from order_le hb hb (by omega) (by omega), cn_nan n1]
   have : cn b ≠ qn := by
    unfold cn; rw [if_neg n2]
    split
    ·decide
    ·rintro rfl; exact n2 (by decide)
   rw [decide_eq_false (fun e => this e.symm), cmp_int, if_neg (by omega), if_pos rfl]; rfl
 ·by_cases n2 : infR < frung b
  ·rw [show FloatKind.f64.format.order a b = none from order_nan ha hb (.inr n2), show FloatKind.f64.format.order a a = some (compare (V a) (V a)) from order_le ha ha (by omega) (by omega), cn_nan n2]
   have : cn a ≠ qn := by
    unfold cn; rw [if_neg n1]
    split
    ·decide
    ·rintro rfl; exact n1 (by decide)
   rw [decide_eq_false this, cmp_int, if_neg (by omega), if_pos rfl]; rfl
  ·rw [show FloatKind.f64.format.order a b = some (compare (V a) (V b)) from order_le ha hb (by omega) (by omega), show FloatKind.f64.format.order a a = some (compare (V a) (V a)) from order_le ha ha (by omega) (by omega), cmp_int, cmp_int (V a) (V a), if_neg (show ¬ V a < V a by omega), if_pos rfl]
   have key : V a = V b ↔ cn a = cn b := by
    constructor
    ·intro h
     by_cases h0 : frung a = 0
     ·have hb0 : frung b = 0 := by
       have : V a = 0 := V_zero_iff.2 h0
       exact V_zero_iff.1 (h ▸ this)
      unfold cn; rw [if_neg n1, if_neg n2, if_pos h0, if_pos hb0]
     ·rw [V_inj ha hb h h0]
    ·intro h
     unfold cn at h
     rw [if_neg n1, if_neg n2] at h
     by_cases h0 : frung a = 0 <;> by_cases h1 : frung b = 0
     ·rw [V_zero_iff.2 h0, V_zero_iff.2 h1]
     ·rw [if_pos h0, if_neg h1] at h; exact (h1 (by rw [← h]; decide)).elim
     ·rw [if_neg h0, if_pos h1] at h; exact (h0 (by rw [h]; decide)).elim
     ·rw [if_neg h0, if_neg h1] at h; rw [h]
   by_cases e : V a = V b
   ·rw [if_neg (by omega), if_pos e, decide_eq_true (key.1 e)]; rfl
   ·rw [if_neg e, decide_eq_false (fun q => e (key.2 q))]
    split <;> rfl
def nthN (l : List Nat) (i : Nat) : Nat := l.getD i 0
theorem nthN_lt {l : List Nat} {i : Nat} (h : i < l.length) : nthN l i = l[i] := by simp [nthN, h]
def Fc (v : Value) (x : Nat) : Prop := ∃ b, v = .float .f64 b ∧ b < 2 * sgnW ∧ cn b = x
structure Fr (w : World) (A : Option Addr) (l : List Nat) : Prop where
 max : l.length ≤ 35184372088831
 cell : ∀ j, j < l.length → ∃ ad v, A = some ad ∧ w.cell? (ad.add j) = some v ∧ Fc v (nthN l j)
theorem Fr.nil (w : World) (A : Option Addr) : Fr w A [] := ⟨by simp, fun j hj => by simp at hj⟩
theorem Fr.bel {w w' : World} {A : Option Addr} {l : List Nat} (h : Fr w A l) (hb : Bel w w') : Fr w' A l :=
 ⟨h.max, fun j hj => by obtain ⟨ad, v, e, hc, k⟩ := h.cell j hj; exact ⟨ad, v, e, hb.cell hc, k⟩⟩
theorem Fr.at_ {w : World} {A : Option Addr} {l : List Nat} (h : Fr w A l) {i : Nat} (hi : i < l.length) :
  ∃ ad b, A = some ad ∧ w.cell? (ad.add i) = some (.float .f64 b) ∧ b < 2 * sgnW ∧ cn b = nthN l i := by
 obtain ⟨ad, v, e, hc, b, rfl, k1, k2⟩ := h.cell i hi
 exact ⟨ad, b, e, hc, k1, k2⟩
theorem Fr.take {w : World} {A : Option Addr} {l : List Nat} (h : Fr w A l) (n : Nat) : Fr w A (l.take n) :=
 ⟨by have := h.max; simp; omega, fun j hj => by
  have hj' : j < l.length := by simp at hj; omega
  have hjn : j < n := by simp at hj; omega
  obtain ⟨ad, v, e, hc, k⟩ := h.cell j hj'
  refine ⟨ad, v, e, hc, ?_⟩
  rwa [show nthN (l.take n) j = nthN l j from by simp [nthN, List.getD_eq_getElem?_getD, hjn]]⟩
theorem Fr.drop {w : World} {ad : Addr} {l : List Nat} (h : Fr w (some ad) l) (n : Nat) : Fr w (some (ad.add n)) (l.drop n) :=
 ⟨by have := h.max; rw [List.length_drop]; omega, fun j hj => by
  rw [List.length_drop] at hj
  obtain ⟨ad', v, e, hc, k⟩ := h.cell (n + j) (by omega)
  cases e
  exact ⟨_, v, rfl, by rw [add_add, hc], by rwa [show nthN (l.drop n) j = nthN l (n + j) from by simp [nthN]]⟩⟩
structure Fk (w : World) (b : Nat) (X : List Nat) : Prop where
 out : ∃ cs : List Value, Blk w b 50 cs ∧ cs.length = X.length ∧ ∀ j v, cs[j]? = some v → Fc v (nthN X j)
theorem Fk.bel {w w' : World} {b : Nat} {X : List Nat} (h : Fk w b X) (g : Bel w w') : Fk w' b X := by
 obtain ⟨cs, h1, h2⟩ := h.out; exact ⟨cs, h1.bel g, h2⟩
theorem Fk.lt {w : World} {b : Nat} {X : List Nat} (h : Fk w b X) : b < w.heap.size := by obtain ⟨cs, h1, _⟩ := h.out; exact h1.lt
theorem Fk.gr {w w' : World} {b b' : Nat} {X : List Nat} (h : Fk w b X) (g : Gr b' w w') (ne : b ≠ b') : Fk w' b X := by
 obtain ⟨cs, h1, h2⟩ := h.out; exact ⟨cs, g.blk h1 ne, h2⟩
theorem Fk.far {w : World} {b : Nat} {X : List Nat} (h : Fk w b X) {p : Addr} (hp : b ≠ p.block) (v : Value) : Fk (w.setCell p v) b X := by
 obtain ⟨cs, h1, h2⟩ := h.out; exact ⟨cs, h1.far hp v, h2⟩
theorem Fk.at_ {w : World} {b : Nat} {X : List Nat} (h : Fk w b X) {i : Nat} (hi : i < X.length) : ∃ r, w.cell? ⟨b, i, none⟩ = some (.float .f64 r) ∧ r < 2 * sgnW ∧ cn r = nthN X i := by
 obtain ⟨cs, h1, h2, h3⟩ := h.out
 have hc : cs[i]? = some cs[i] := List.getElem?_eq_getElem (by omega)
 obtain ⟨r, e, k1, k2⟩ := h3 i _ hc
 exact ⟨r, by rw [h1.cell hc, e], k1, k2⟩
theorem Fk.free {w : World} {b : Nat} {X : List Nat} (h : Fk w b X) (i : Nat) : w.frozen? ⟨b, i, none⟩ = false := by
 obtain ⟨cs, h1, _⟩ := h.out; exact h1.free i
theorem nthN_set (X : List Nat) (i : Nat) (x : Nat) (j : Nat) : nthN (X.set i x) j = if i = j ∧ i < X.length then x else nthN X j := by
 simp only [nthN, List.getD_eq_getElem?_getD, List.getElem?_set]
 by_cases h : i = j
 ·subst h
  by_cases h2 : i < X.length
  ·simp [h2]
  ·simp [h2]
 ·simp [h]
theorem Fk.set {w : World} {b : Nat} {X : List Nat} (h : Fk w b X) (i : Nat) {r x : Nat} (hr : r < 2 * sgnW) (hx : cn r = x) : Fk (w.setCell ⟨b, i, none⟩ (.float .f64 r)) b (X.set i x) := by
 obtain ⟨cs, h1, h2, h3⟩ := h.out
 refine ⟨cs.set i (.float .f64 r), h1.set i _, by rw [List.length_set, List.length_set, h2], fun j v hj => ?_⟩
 rw [nthN_set]
 rw [List.getElem?_set] at hj
 by_cases e : i = j
 ·subst e
  by_cases hi : i < X.length
  ·rw [if_pos rfl, if_pos (by omega)] at hj
   cases hj
   rw [if_pos ⟨rfl, hi⟩]
   exact ⟨r, rfl, hr, hx⟩
  ·rw [if_pos rfl, if_neg (by omega)] at hj; cases hj
 ·rw [if_neg e] at hj
  rw [if_neg (fun q => e q.1)]
  exact h3 j v hj
theorem add_lit (b i j : Nat) : (⟨b, i, none⟩ : Addr).add j = ⟨b, i + j, none⟩ := by
 unfold Addr.add
 split
 ·subst_vars; rfl
 ·rfl
theorem Fk.fr {w : World} {b : Nat} {X : List Nat} (h : Fk w b X) (o n : Nat) (hn : o + n ≤ X.length) (hm : n ≤ 35184372088831) : Fr w (some ⟨b, o, none⟩) ((X.drop o).take n) :=
 ⟨by simp; omega, fun j hj => by
  have hj' : j < n := by simp at hj; omega
  obtain ⟨r, hc, k1, k2⟩ := h.at_ (i := o + j) (by omega)
  refine ⟨_, _, rfl, by rw [add_lit]; exact hc, r, rfl, k1, ?_⟩
  rw [k2]; simp [nthN, List.getD_eq_getElem?_getD, hj']⟩
theorem Fk.of {w : World} {b : Nat} {cs : List Value} {X : List Nat} (h : Blk w b 50 cs) (hl : cs.length = X.length) (hc : ∀ j v, cs[j]? = some v → Fc v (nthN X j)) : Fk w b X := ⟨cs, h, hl, hc⟩
theorem Fk.zero {w : World} {b n : Nat} (h : Blk w b 50 (List.replicate n (.float .f64 0))) : Fk w b (List.replicate n 0) :=
 Fk.of h (by simp) fun j v hv => by
  rw [List.getElem?_replicate] at hv
  split at hv
  ·cases hv
   exact ⟨0, rfl, by decide, by simp [nthN, List.getD_eq_getElem?_getD, *, cn_zero]⟩
  ·cases hv
end W0
namespace U0
open Ieee Go Go.RowKit Ow Pl Dp Gp Gq T0 T1 W0
def formN (k : Int) (q : Nat) : Nat × Nat := if (k % 2 ^ q).toNat = 0 then (0, 0) else ((k % 2 ^ q).toNat / 2 ^ tzE (k % 2 ^ q).toNat, q - tzE (k % 2 ^ q).toNat)
def addT (a b : Nat × Nat) : Nat × Nat :=
 let f := formN a.1 a.2
 let g := formN b.1 b.2
 let q := max f.2 g.2
 formN ((f.1 * 2 ^ (q - f.2) + g.1 * 2 ^ (q - g.2) : Nat) : Int) q
def flipT (a : Nat × Nat) : Nat × Nat := formN (-(a.1 : Int)) a.2
def upT (f : Nat × Nat) : Nat × Nat := if f.2 < 3 ∧ f ≠ (0, 0) then (f.1 * 2 ^ (3 - f.2), 3) else f
def splitT (k : Int) (q : Nat) : Nat × (Nat × Nat) :=
 let f := upT (formN k q)
 if f = (0, 0) then (0, (0, 0)) else
 let e := f.1 / 2 ^ (f.2 - 3)
 if e % 2 = 0 then (e, addT f (flipT (e, 3))) else (e, flipT (addT f (flipT (e + 1, 3))))
def placeT (e : Nat) : Bool × Bool × Bool :=
 ((e == 1) || ((e == 2) || ((e == 5) || (e == 6))), decide (2 ≤ e) && decide (e ≤ 5), decide (4 ≤ e))
def lookT (r : Nat × Nat) : Nat × Nat := match (T1.rowAt r.2).find? (fun x => x.1 == r.1) with
 | some x => x.2
 | none => (0, 0)
def turnT (e : Nat) (p : Nat × Nat) : Nat × Nat :=
 let p := if (placeT e).1 then (p.2, p.1) else p
 (if (placeT e).2.1 then fng p.1 else p.1, if (placeT e).2.2 then fng p.2 else p.2)
def tabW (q k : Nat) : Nat × Nat := turnT (splitT k q).1 (lookT (splitT k q).2)
def restsOk (q : Nat) : Bool := (List.range (2 ^ q)).all fun k => (T1.rowAt (splitT k q).2.2).any (fun x => x.1 == (splitT k q).2.1) && (decide ((splitT k q).1 ≤ 7) && (decide ((splitT k q).2.2 ≤ 9) && (decide ((splitT k q).2.1 < 64) && decide ((splitT k q).2.2 = 0 ∨ 3 ≤ (splitT k q).2.2))))
theorem rests_ok : ∀ q, q ≤ 9 → restsOk q = true := by
 intro q hq
 have : ∀ q : Fin 10, restsOk q.val = true := by decide +kernel
 exact this ⟨q, by omega⟩
theorem form_mod (k : Int) (q : Nat) : formN (k % 2 ^ q) q = formN k q := by
 unfold formN; rw [Int.emod_emod]
theorem split_mod (k : Int) (q : Nat) : splitT (k % 2 ^ q) q = splitT k q := by
 unfold splitT; rw [form_mod]
theorem look_of {r : Nat × Nat} (h : (T1.rowAt r.2).any (fun x => x.1 == r.1) = true) : ((r.1, (lookT r).1, (lookT r).2) : Nat × Nat × Nat) ∈ T1.rowAt r.2 := by
 unfold lookT
 cases hf : (T1.rowAt r.2).find? (fun x => x.1 == r.1) with
 | none =>
  obtain ⟨x, hx, hp⟩ := List.any_eq_true.1 h
  exact absurd hp (by simpa using List.find?_eq_none.1 hf x hx)
 | some x =>
  have h1 := List.mem_of_find?_eq_some hf
  have h2 := List.find?_some hf
  simp only [beq_iff_eq] at h2
  rw [← h2]; exact h1
theorem split_entry (k : Int) {q : Nat} (hq : q ≤ 9) : Entry (splitT k q).2.2 (splitT k q).2.1 (lookT (splitT k q).2).1 (lookT (splitT k q).2).2 ∧ (splitT k q).1 ≤ 7 ∧ (splitT k q).2.2 ≤ 9 ∧ (splitT k q).2.1 < 64 ∧ ((splitT k q).2.2 = 0 ∨ 3 ≤ (splitT k q).2.2) := by
 have h := rests_ok q hq
 unfold restsOk at h
 have hp : (0 : Int) < 2 ^ q := Int.pow_pos (by decide)
 have h0 := Int.emod_nonneg k (Int.ne_of_gt hp)
 have h1 := Int.emod_lt_of_pos k hp
 have hm : (k % 2 ^ q).toNat < 2 ^ q := by
  have : ((2 : Int) ^ q) = ((2 ^ q : Nat) : Int) := by simp
  omega
 have := List.all_eq_true.1 h _ (List.mem_range.2 hm)
 rw [Int.toNat_of_nonneg h0, split_mod] at this
 simp only [Bool.and_eq_true, decide_eq_true_eq] at this
 obtain ⟨a, b, c, d, e⟩ := this
 exact ⟨rowAt_ok _ (look_of a), b, c, d, e⟩
theorem split_mem (k : Int) {q : Nat} (hq : q ≤ 9) : ((splitT k q).2.1, (lookT (splitT k q).2).1, (lookT (splitT k q).2).2) ∈ T1.rowAt (splitT k q).2.2 := by
 have h := rests_ok q hq
 unfold restsOk at h
 have hp : (0 : Int) < 2 ^ q := Int.pow_pos (by decide)
 have h0 := Int.emod_nonneg k (Int.ne_of_gt hp)
 have h1 := Int.emod_lt_of_pos k hp
 have hm : (k % 2 ^ q).toNat < 2 ^ q := by
  have : ((2 : Int) ^ q) = ((2 ^ q : Nat) : Int) := by simp
  omega
 have := List.all_eq_true.1 h _ (List.mem_range.2 hm)
 rw [Int.toNat_of_nonneg h0, split_mod] at this
 simp only [Bool.and_eq_true, decide_eq_true_eq] at this
 exact look_of this.1
def selfOk (Q : Nat) : Bool := (T1.rowAt Q).all fun x => formN x.1 Q == (x.1, Q) && ((splitT x.1 Q).2 == (x.1, Q) && ((splitT x.1 Q).1 == 0 || ((splitT x.1 Q).1 == 1 && (x.1 == 1 && Q == 3))) && (decide (x.1 < 64) && decide (Q = 0 ∨ 3 ≤ Q)))
theorem self_ok : ∀ Q, Q ≤ 9 → selfOk Q = true := by
 intro Q hq
 have : ∀ Q : Fin 10, selfOk Q.val = true := by decide +kernel
 exact this ⟨Q, by omega⟩
theorem row_self {Q k cw sw : Nat} (hQ : Q ≤ 9) (h : (k, cw, sw) ∈ T1.rowAt Q) : formN k Q = (k, Q) ∧ (splitT k Q).2 = (k, Q) ∧ ((splitT k Q).1 = 0 ∨ ((splitT k Q).1 = 1 ∧ k = 1 ∧ Q = 3)) ∧ k < 64 ∧ (Q = 0 ∨ 3 ≤ Q) := by
 have := List.all_eq_true.1 (self_ok Q hQ) _ h
 simp only [Bool.and_eq_true, Bool.or_eq_true, beq_iff_eq, decide_eq_true_eq] at this
 obtain ⟨a, ⟨b, c⟩, d, e⟩ := this
 exact ⟨a, b, c, d, e⟩
end U0
namespace U1
open Ieee Go Go.RowKit Go.Proofs.YtnbdoidccacdnaaGreatDoor Ow Pl Dp Dt F1 T0 I0 U0
attribute [local go_sem ↓] Go.wp_at_zero Go.wp_at_succ
def MakesT (w : World) (t : Nat × Nat) (e : Ending) (w' : World) : Prop := e = .returned (.agg #[.int .i64 t.1, .int .i64 t.2]) ∧ Bel w w'
theorem res2 {fn : Func} {p : Tmp} {tmps : Array Value} {w : World} {b : Nat} {v0 v1 : Value} (hf : fn.results = #[.cell p 79]) (hp : tmps.getD p undef = .pointer (some ⟨b, 0, none⟩)) (h : Blk w b 79 [v0, v1]) :
  (results fn tmps).run Tryz.prog w = .ok (.agg #[v0, v1]) w := by
 have y0 := h.cell (i := 0) rfl
 have y1 := h.cell (i := 1) rfl
 have hp2 := hp
 rw [Array.getD_eq_getD_getElem?] at hp2
 simp [results, hf, hp2, go_sem, y0, y1]
theorem gives_endT {fn : Func} {p : Tmp} {tmps : Array Value} {w w2 : World} {b : Nat} {t : Nat × Nat} {k q : Int} {u0 u1 : Value} (hf : fn.results = #[.cell p 79]) (hp : tmps.getD p undef = .pointer (some ⟨b, 0, none⟩)) (hB : Bel w w2) (hb : w.heap.size ≤ b)
  (K : Blk w2 b 79 [u0, u1]) (hk : k = t.1) (hq : q = t.2) :
  bodyPost Tryz.prog fn (MakesT w t) .ret { tmps := tmps, defers := [] } ((w2.setCell ⟨b, 0, none⟩ (.int .i64 k)).setCell ⟨b, 1, none⟩ (.int .i64 q)) := by
 subst hk; subst hq
 exact bodyPost_ret (res2 hf hp ((K.set 0 _).set 1 _)) rfl ⟨rfl, ⟨(hB.out.setCell (p := ⟨b, 0, none⟩) hb _).setCell (p := ⟨b, 1, none⟩) hb _⟩⟩
theorem form_k {m b : Int} (h : 0 < m) (hb : (tz m.toNat : Int) = b) : m / 2 ^ b.toNat = ((m.toNat / 2 ^ tz m.toNat : Nat) : Int) := by
 subst hb
 rw [Int.toNat_natCast, Int.natCast_ediv, Int.toNat_of_nonneg (by omega)]
 simp
theorem form_q {t : Nat} {q b : Int} (hb : (t : Int) = b) (hz : b ≤ q) (h1 : q ≤ 20) : IntKind.i64.wrap (q - b) = (((q - (t : Int)).toNat : Nat) : Int) := by
 subst hb
 rw [IntKind.wrap_i64]; omega
theorem form_zero {k m : Int} {qi p : Int} {t : Nat × Nat} (w : World) (h0 : 0 ≤ qi) (h1 : qi ≤ 20) (hp : IntKind.i64.wrap (IntKind.i64.wrap (2 ^ qi.toNat) - 1) = p) (hm : bits .and .i64 k p = 0) (ht : t = (0, 0)) :
  Calls Tryz.prog 169 #[.agg #[.int .i64 k, .int .i64 qi]] w (MakesT w t) := by
 have HT := Ho.mk ht
 clear ht
 go_enter Tryz.func169, Tryz.ntmps169
 go_wp2_with fail
 have KB := Ho.mk ((Blk.new w [.int .i64 k, .int .i64 qi] 79).old (.cells #[.int .i64 0, .int .i64 0] 79))
 have KR := Ho.mk (Blk.new (w.alloc (.cells #[.int .i64 k, .int .i64 qi] 79)) [.int .i64 0, .int .i64 0] 79)
 rw [World.size_alloc] at KR
 have g0 := Ho.mk (((Bel.refl w).alloc (.cells #[.int .i64 k, .int .i64 qi] 79)).alloc (.cells #[.int .i64 0, .int .i64 0] 79))
 generalize (w.alloc (.cells #[.int .i64 k, .int .i64 qi] 79)).alloc (.cells #[.int .i64 0, .int .i64 0] 79) = W at *
 have y0 := KB.out.cell (i := 0) rfl
 have y1 := KB.out.cell (i := 1) rfl
 have f0 := KB.out.drew.free 0
 refine I7.wp_region_late 8 (S := fun w' => Bel W w') (by kernel_rfl) (Bel.refl _).drew (fun hHeld => ?_)
 (try dsimp only at hHeld)
 refine I7.kt (i := 0) hHeld ?_
 refine I7.kl (i := 1) (v := ?_) hHeld (fun w hSw => ?_) ?_
 rotate_left
 ·(have z0 := hSw.cell y0; go_simp; try (with_reducible rfl))
 refine I7.kt (i := 2) hHeld ?_
 refine I7.kl (i := 3) (v := ?_) hHeld (fun w hSw => ?_) ?_
 rotate_left
 ·(have z0 := hSw.cell y1; go_simp; try (with_reducible rfl))
 refine I7.kt (i := 4) hHeld ?_
 refine I7.kt (i := 5) hHeld ?_
 refine I7.kt (i := 6) hHeld ?_
 refine I7.kt (i := 7) hHeld ?_
 try simp only [Act.put, List.setIfInBounds_toArray, List.set_cons_zero, List.set_cons_succ]
 refine I7.ke (i := 8) (fun K hK => ?_)
 go_simp
 refine hK.out _ _ ?_
 clear hK K
 try simp only [Act.put, List.setIfInBounds_toArray, List.set_cons_zero, List.set_cons_succ]
 refine wpAny_done (by kernel_rfl) ?_ _
 have KB2 := Ho.mk ((KB.out.set 0 (.int .i64 0)).drew)
 have KR2 := Ho.mk ((KR.out.far (p := ⟨w.heap.size, 0, none⟩) (by simp) (.int .i64 0)).drew)
 have g2 := Ho.mk (show Bel w (W.setCell ⟨w.heap.size, 0, none⟩ (.int .i64 0)).drew from ⟨(g0.out.out.setCell (p := ⟨w.heap.size, 0, none⟩) (Nat.le_refl _) _).drew⟩)
 clear KB KR y0 y1 f0 g0 hHeld
 generalize (W.setCell ⟨w.heap.size, 0, none⟩ (.int .i64 0)).drew = W2 at *
 have y0 := KB2.out.cell (i := 0) rfl
 have y1 := KB2.out.cell (i := 1) rfl
 have x0 := KR2.out.cell (i := 0) rfl
 have x1 := KR2.out.cell (i := 1) rfl
 have z0 := KR2.out.free 0
 have z1 := KR2.out.free 1
 go_wp2
 exact gives_endT (fn := Tryz.f169) rfl rfl g2.out (by omega) KR2.out (by rw [HT.out]; rfl) (by rw [HT.out]; rfl)
theorem form_some {k m : Int} {qi p : Int} {t : Nat × Nat} (w : World) (h0 : 0 ≤ qi) (h1 : qi ≤ 20) (hp : IntKind.i64.wrap (IntKind.i64.wrap (2 ^ qi.toNat) - 1) = p) (hm : bits .and .i64 k p = m) (h2 : 0 < m) (h3 : m < 16777216) (T : Tab w) (ht : t = (m.toNat / 2 ^ tz m.toNat, (qi - tz m.toNat).toNat)) (hz : (tz m.toNat : Int) ≤ qi) :
  Calls Tryz.prog 169 #[.agg #[.int .i64 k, .int .i64 qi]] w (MakesT w t) := by
 have HT := Ho.mk ht
 clear ht
 go_enter Tryz.func169, Tryz.ntmps169
 go_wp2_with fail
 have KB := Ho.mk ((Blk.new w [.int .i64 k, .int .i64 qi] 79).old (.cells #[.int .i64 0, .int .i64 0] 79))
 have KR := Ho.mk (Blk.new (w.alloc (.cells #[.int .i64 k, .int .i64 qi] 79)) [.int .i64 0, .int .i64 0] 79)
 rw [World.size_alloc] at KR
 have g0 := Ho.mk (((Bel.refl w).alloc (.cells #[.int .i64 k, .int .i64 qi] 79)).alloc (.cells #[.int .i64 0, .int .i64 0] 79))
 generalize (w.alloc (.cells #[.int .i64 k, .int .i64 qi] 79)).alloc (.cells #[.int .i64 0, .int .i64 0] 79) = W at *
 have y0 := KB.out.cell (i := 0) rfl
 have y1 := KB.out.cell (i := 1) rfl
 have f0 := KB.out.drew.free 0
 refine I7.wp_region_late 8 (S := fun w' => Bel W w') (by kernel_rfl) (Bel.refl _).drew (fun hHeld => ?_)
 (try dsimp only at hHeld)
 refine I7.kt (i := 0) hHeld ?_
 refine I7.kl (i := 1) (v := ?_) hHeld (fun w hSw => ?_) ?_
 rotate_left
 ·(have z0 := hSw.cell y0; go_simp; try (with_reducible rfl))
 refine I7.kt (i := 2) hHeld ?_
 refine I7.kl (i := 3) (v := ?_) hHeld (fun w hSw => ?_) ?_
 rotate_left
 ·(have z0 := hSw.cell y1; go_simp; try (with_reducible rfl))
 refine I7.kt (i := 4) hHeld ?_
 refine I7.kt (i := 5) hHeld ?_
 refine I7.kt (i := 6) hHeld ?_
 refine I7.kt (i := 7) hHeld ?_
 try simp only [Act.put, List.setIfInBounds_toArray, List.set_cons_zero, List.set_cons_succ]
 refine I7.ke (i := 8) (fun K hK => ?_)
 go_simp
 refine hK.out _ _ ?_
 clear hK K
 try simp only [Act.put, List.setIfInBounds_toArray, List.set_cons_zero, List.set_cons_succ]
 refine wpAny_done (by kernel_rfl) ?_ _
 have KB2 := Ho.mk ((KB.out.set 0 (.int .i64 m)).drew)
 have KR2 := Ho.mk ((KR.out.far (p := ⟨w.heap.size, 0, none⟩) (by simp) (.int .i64 m)).drew)
 have g2 := Ho.mk (show Bel w (W.setCell ⟨w.heap.size, 0, none⟩ (.int .i64 m)).drew from ⟨(g0.out.out.setCell (p := ⟨w.heap.size, 0, none⟩) (Nat.le_refl _) _).drew⟩)
 clear KB KR y0 y1 f0 g0 hHeld
 generalize (W.setCell ⟨w.heap.size, 0, none⟩ (.int .i64 m)).drew = W2 at *
 have y0 := KB2.out.cell (i := 0) rfl
 have y1 := KB2.out.cell (i := 1) rfl
 have x0 := KR2.out.cell (i := 0) rfl
 have x1 := KR2.out.cell (i := 1) rfl
 have z0 := KR2.out.free 0
 have z1 := KR2.out.free 1
 have TZ := Ho.mk (fun w T => E1.tz_callsI m w h2 h3 T)
 have TT := Ho.mk (T.bel g2.out)
 have HZ := Ho.mk hz
 clear T hz
 go_wp2_with fail
 (with_reducible refine (TZ.out _ TT.out).mono ?_); rintro e w3 ⟨rfl, rfl⟩
 have hz0 : (0 : Int) ≤ tz m.toNat := by omega
 have hz1 := HZ.out
 generalize hb : (tz m.toNat : Int) = by_ at *
 go_wp2_with fail
 refine I7.wp_region_late 9 (S := fun w' => Bel W2 w') (by kernel_rfl) (Bel.refl _).drew (fun hHeld => ?_)
 (try dsimp only at hHeld)
 refine I7.kt (i := 0) hHeld ?_
 refine I7.kl (i := 1) (v := ?_) hHeld (fun w hSw => ?_) ?_
 rotate_left
 ·(have z0 := hSw.cell y0; go_simp; try (with_reducible rfl))
 refine I7.kt (i := 2) hHeld ?_
 refine I7.kt (i := 3) hHeld ?_
 refine I7.kt (i := 4) hHeld ?_
 refine I7.kl (i := 5) (v := ?_) hHeld (fun w hSw => ?_) ?_
 rotate_left
 ·(have z0 := hSw.cell y1; go_simp; try (with_reducible rfl))
 refine I7.kt (i := 6) hHeld ?_
 refine I7.kt (i := 7) hHeld ?_
 refine I7.kt (i := 8) hHeld ?_
 try simp only [Act.put, List.setIfInBounds_toArray, List.set_cons_zero, List.set_cons_succ]
 refine I7.ke (i := 9) (fun K hK => ?_)
 go_simp
 refine hK.out _ _ ?_
 clear hK K
 try simp only [Act.put, List.setIfInBounds_toArray, List.set_cons_zero, List.set_cons_succ]
 refine wpAny_done (by kernel_rfl) ?_ _
 go_wp2
 --@@
 exact gives_endT (fn := Tryz.f169) (w2 := W2.drew) rfl rfl g2.out.drew (by omega) KR2.out.drew (by rw [HT.out]; exact form_k h2 hb) (by rw [HT.out, ← hb]; exact form_q rfl (by omega) h1)
theorem tz_lt_of {m q : Nat} (h0 : m ≠ 0) (h : m < 2 ^ q) : tz m ≤ q := by
 have hd : 2 ^ tz m * odd m = m := by rw [Nat.mul_comm]; exact odd_eq m
 rcases Nat.lt_or_ge q (tz m) with g | g
 ·exfalso
  have h1 : 2 ^ q ≤ 2 ^ tz m := Nat.pow_le_pow_right (by decide) (by omega)
  have h2 : 0 < odd m := by rcases Nat.eq_zero_or_pos (odd m) with e | e; rw [e, Nat.mul_zero] at hd; omega; exact e
  have := Nat.le_mul_of_pos_right (2 ^ tz m) h2
  omega
 ·exact g
theorem dForm {k qi : Int} {q : Nat} (w : World) (T : Tab w) (hqi : (q : Int) = qi) (hq : q ≤ 20) : Calls Tryz.prog 169 #[.agg #[.int .i64 k, .int .i64 qi]] w (MakesT w (formN k q)) := by
 have hp2 : (2 : Nat) ^ q ≤ 2 ^ 20 := Nat.pow_le_pow_right (by decide) hq
 have hp1 : (0 : Int) < 2 ^ q := Int.pow_pos (by decide)
 have hp0 : ((2 : Int) ^ q) = ((2 ^ q : Nat) : Int) := by simp
 have e20 : (2 : Nat) ^ 20 = 1048576 := by decide
 have hw : IntKind.i64.wrap (IntKind.i64.wrap (2 ^ qi.toNat) - 1) = 2 ^ q - 1 := by
  rw [← hqi, Int.toNat_natCast, IntKind.wrap_i64, IntKind.wrap_i64, hp0]
  rw [hp0] at hp1
  generalize (2 : Nat) ^ q = P at *
  omega
 have hmask := i64_mask k q (by omega)
 have g0 := Int.emod_nonneg k (Int.ne_of_gt hp1)
 have g1 := Int.emod_lt_of_pos k hp1
 by_cases h0 : k % 2 ^ q = 0
 ·exact form_zero (m := 0) w (by omega) (by omega) hw (hmask.trans h0) (by unfold formN; rw [if_pos (by rw [h0]; rfl)])
 ·have hn : (k % 2 ^ q).toNat ≠ 0 := by omega
  have hz := tz_lt_of hn (show (k % 2 ^ q).toNat < 2 ^ q by rw [hp0] at *; omega)
  exact form_some w (by omega) (by omega) hw hmask (by omega) (by rw [hp0] at *; omega) T (by unfold formN; rw [if_neg hn, tzE_eq]; congr 1; omega) (by omega)
theorem dFlip {k qi : Int} {q : Nat} (w : World) (T : Tab w) (hqi : (q : Int) = qi) (hq : q ≤ 20) (hk0 : -1000000000000 ≤ k) (hk1 : k ≤ 1000000000000) :
  Calls Tryz.prog 171 #[.agg #[.int .i64 k, .int .i64 qi]] w (MakesT w (formN (-k) q)) := by
 have FO := Ho.mk (fun w T => dForm (k := -k) w T hqi hq)
 have TT := Ho.mk T
 clear T
 go_enter Tryz.func171, Tryz.ntmps171
 go_wp2_with fail
 have KB := Ho.mk ((Blk.new w [.int .i64 k, .int .i64 qi] 79).old (.cells #[.int .i64 0, .int .i64 0] 79))
 have KR := Ho.mk (Blk.new (w.alloc (.cells #[.int .i64 k, .int .i64 qi] 79)) [.int .i64 0, .int .i64 0] 79)
 rw [World.size_alloc] at KR
 have g0 := Ho.mk (((Bel.refl w).alloc (.cells #[.int .i64 k, .int .i64 qi] 79)).alloc (.cells #[.int .i64 0, .int .i64 0] 79))
 have hS : ((w.alloc (.cells #[.int .i64 k, .int .i64 qi] 79)).alloc (.cells #[.int .i64 0, .int .i64 0] 79)).heap.size = w.heap.size + 1 + 1 := by simp only [World.size_alloc]
 generalize ((w.alloc (.cells #[.int .i64 k, .int .i64 qi] 79)).alloc (.cells #[.int .i64 0, .int .i64 0] 79)) = W at *
 have y0 := KB.out.cell (i := 0) rfl
 have y1 := KB.out.cell (i := 1) rfl
 go_wp2_with fail
 (with_reducible refine (FO.out _ (TT.out.bel g0.out)).mono ?_); rintro e w1 ⟨rfl, b1⟩
 have KR2 := Ho.mk (KR.out.bel b1)
 clear y0 y1
 have x0 := KR2.out.cell (i := 0) rfl
 have x1 := KR2.out.cell (i := 1) rfl
 have z0 := KR2.out.free 0
 have z1 := KR2.out.free 1
 go_wp2
 exact gives_endT (fn := Tryz.f171) rfl rfl (g0.out.trans b1) (by omega) KR2.out rfl rfl
theorem dFrom {k : Int} (w : World) (T : Tab w) (hk0 : -1000000000000 ≤ k) (hk1 : k ≤ 1000000000000) :
  Calls Tryz.prog 170 #[.int .i64 k] w (MakesT w (formN (-k) 3)) := by
 have FL := Ho.mk (fun w T => dFlip (q := 3) (qi := 3) (k := k) w T rfl (by decide) hk0 hk1)
 have TT := Ho.mk T
 clear T
 go_enter Tryz.func170, Tryz.ntmps170
 go_wp2_with fail
 have KR := Ho.mk (Blk.new w [.int .i64 0, .int .i64 0] 79)
 have g0 := Ho.mk ((Bel.refl w).alloc (.cells #[.int .i64 0, .int .i64 0] 79))
 have hS : (w.alloc (.cells #[.int .i64 0, .int .i64 0] 79)).heap.size = w.heap.size + 1 := by simp only [World.size_alloc]
 generalize (w.alloc (.cells #[.int .i64 0, .int .i64 0] 79)) = W at *
 go_wp2_with fail
 (with_reducible refine (FL.out _ (TT.out.bel g0.out)).mono ?_); rintro e w1 ⟨rfl, b1⟩
 have KR2 := Ho.mk (KR.out.bel b1)
 have x0 := KR2.out.cell (i := 0) rfl
 have x1 := KR2.out.cell (i := 1) rfl
 have z0 := KR2.out.free 0
 have z1 := KR2.out.free 1
 go_wp2
 exact gives_endT (fn := Tryz.f170) rfl rfl (g0.out.trans b1) (by omega) KR2.out rfl rfl
theorem dAdd {k1 q1 k2 q2 : Int} {n1 n2 : Nat} (w : World) (T : Tab w) (h1 : (n1 : Int) = q1) (h2 : (n2 : Int) = q2) (hn1 : n1 ≤ 20) (hn2 : n2 ≤ 20) {f g t : Nat × Nat} (hf : formN k1 n1 = f) (hg : formN k2 n2 = g) {u v qq s : Int} {qm : Nat}
  (hf1 : f.1 < 1048576) (hf2 : f.2 ≤ 20) (hg1 : g.1 < 1048576) (hg2 : g.2 ≤ 20)
  (hq : (if (f.2 : Int) < (g.2 : Int) then (g.2 : Int) else (f.2 : Int)) = qq) (hqm : (qm : Int) = qq) (hqm2 : qm ≤ 20) (hu : IntKind.i64.wrap ((f.1 : Int) * 2 ^ min (IntKind.i64.wrap (qq - (f.2 : Int))).toNat 64) = u) (hv : IntKind.i64.wrap ((g.1 : Int) * 2 ^ min (IntKind.i64.wrap (qq - (g.2 : Int))).toNat 64) = v) (hs : IntKind.i64.wrap (u + v) = s) (ht : formN s qm = t) :
  Calls Tryz.prog 172 #[.agg #[.int .i64 k1, .int .i64 q1], .agg #[.int .i64 k2, .int .i64 q2]] w (MakesT w t) := by
 have F1 := Ho.mk (fun w T => dForm (k := k1) w T h1 hn1)
 have F2 := Ho.mk (fun w T => dForm (k := k2) w T h2 hn2)
 have F3 := Ho.mk (fun w T => dForm (k := s) w T hqm hqm2)
 rw [hf] at F1
 rw [hg] at F2
 rw [ht] at F3
 have TT := Ho.mk T
 have p0 : (0 : Int) ≤ f.1 := Int.natCast_nonneg _
 have p1 : (0 : Int) ≤ f.2 := Int.natCast_nonneg _
 have p2 : (0 : Int) ≤ g.1 := Int.natCast_nonneg _
 have p3 : (0 : Int) ≤ g.2 := Int.natCast_nonneg _
 have p4 : (f.2 : Int) ≤ qq := by rw [← hq]; split <;> omega
 have p5 : (g.2 : Int) ≤ qq := by rw [← hq]; split <;> omega
 have p6 : qq ≤ 20 := by omega
 have w1 : 0 ≤ IntKind.i64.wrap (qq - (f.2 : Int)) := by rw [IntKind.wrap_i64]; omega
 have w2 : 0 ≤ IntKind.i64.wrap (qq - (g.2 : Int)) := by rw [IntKind.wrap_i64]; omega
 clear T hf hg ht hqm hf1 hf2 hg1 hg2
 unfold MakesT at F1 F2
 generalize (f.1 : Int) = fk at *
 generalize (f.2 : Int) = fq at *
 generalize (g.1 : Int) = gk at *
 generalize (g.2 : Int) = gq at *
 go_enter Tryz.func172, Tryz.ntmps172
 go_wp2_with fail
 have KA := Ho.mk (((Blk.new w [.int .i64 k1, .int .i64 q1] 79).old (.cells #[.int .i64 k2, .int .i64 q2] 79)).old (.cells #[.int .i64 0, .int .i64 0] 79))
 have KB := Ho.mk ((Blk.new (w.alloc (.cells #[.int .i64 k1, .int .i64 q1] 79)) [.int .i64 k2, .int .i64 q2] 79).old (.cells #[.int .i64 0, .int .i64 0] 79))
 rw [World.size_alloc] at KB
 have KR := Ho.mk (Blk.new ((w.alloc (.cells #[.int .i64 k1, .int .i64 q1] 79)).alloc (.cells #[.int .i64 k2, .int .i64 q2] 79)) [.int .i64 0, .int .i64 0] 79)
 rw [World.size_alloc, World.size_alloc] at KR
 have g0 := Ho.mk ((((Bel.refl w).alloc (.cells #[.int .i64 k1, .int .i64 q1] 79)).alloc (.cells #[.int .i64 k2, .int .i64 q2] 79)).alloc (.cells #[.int .i64 0, .int .i64 0] 79))
 have hS : (((w.alloc (.cells #[.int .i64 k1, .int .i64 q1] 79)).alloc (.cells #[.int .i64 k2, .int .i64 q2] 79)).alloc (.cells #[.int .i64 0, .int .i64 0] 79)).heap.size = w.heap.size + 1 + 1 + 1 := by simp only [World.size_alloc]
 generalize (((w.alloc (.cells #[.int .i64 k1, .int .i64 q1] 79)).alloc (.cells #[.int .i64 k2, .int .i64 q2] 79)).alloc (.cells #[.int .i64 0, .int .i64 0] 79)) = W at *
 have y0 := KA.out.cell (i := 0) rfl
 have y1 := KA.out.cell (i := 1) rfl
 have x0 := KB.out.cell (i := 0) rfl
 have x1 := KB.out.cell (i := 1) rfl
 refine I7.wp_region_late 4 (S := fun w' => Bel W w') (by kernel_rfl) (Bel.refl _).drew (fun hHeld => ?_)
 (try dsimp only at hHeld)
 refine I7.kl (i := 0) (v := ?_) hHeld (fun w hSw => ?_) ?_
 rotate_left
 ·(have z0 := hSw.cell y0; have z1 := hSw.cell y1; go_simp; try (with_reducible rfl))
 refine I7.kl (i := 2) (v := ?_) hHeld (fun w hSw => ?_) ?_
 rotate_left
 ·(have z0 := hSw.cell x0; have z1 := hSw.cell x1; go_simp; try (with_reducible rfl))
 try simp only [Act.put, List.setIfInBounds_toArray, List.set_cons_zero, List.set_cons_succ]
 refine I7.kc (i := 1) (fun K hK => ?_)
 go_simp
 go_at_call 169
 (with_reducible refine (F1.out _ (TT.out.bel (g0.out.drew))).mono ?_); rintro e w1 ⟨rfl, b1⟩
 try go_wp2_with fail
 refine hK.out _ _ (Bel.trans hHeld b1) (fun hHeld => ?_)
 clear hK K
 try simp only [Act.put, List.setIfInBounds_toArray, List.set_cons_zero, List.set_cons_succ]
 refine I7.kc (i := 3) (fun K hK => ?_)
 go_simp
 go_at_call 169
 (with_reducible refine (F2.out _ (TT.out.bel (g0.out.trans hHeld))).mono ?_); rintro e w2 ⟨rfl, b2⟩
 try go_wp2_with fail
 refine hK.out _ _ (Bel.trans hHeld b2) (fun hHeld => ?_)
 clear hK K
 have K1 := Ho.mk (KA.out.bel hHeld)
 have K2 := Ho.mk (KB.out.bel hHeld)
 have KR1 := Ho.mk (KR.out.bel hHeld)
 have gg := Ho.mk (g0.out.trans hHeld)
 clear y0 y1 x0 x1 hHeld
 have y0 := K1.out.cell (i := 0) rfl
 have y1 := K1.out.cell (i := 1) rfl
 have z0 := K1.out.free 0
 have z1 := K1.out.free 1
 have x0 := K2.out.cell (i := 0) rfl
 have x1 := K2.out.cell (i := 1) rfl
 have v0 := K2.out.free 0
 have v1 := K2.out.free 1
 try simp only [Act.put, List.setIfInBounds_toArray, List.set_cons_zero, List.set_cons_succ]
 refine I7.ke (i := 4) (fun K hK => ?_)
 go_simp
 refine hK.out _ _ ?_
 clear hK K
 try simp only [Act.put, List.setIfInBounds_toArray, List.set_cons_zero, List.set_cons_succ]
 refine I7.ke2 (i := 5) (fun K hK => ?_)
 go_simp
 refine hK.out _ _ ?_
 clear hK K
 try simp only [Act.put, List.setIfInBounds_toArray, List.set_cons_zero, List.set_cons_succ]
 refine wpAny_done (by kernel_rfl) ?_ _
 have K1 := Ho.mk ((((K1.out.set 0 (.int .i64 fk)).set 1 (.int .i64 fq)).far (p := ⟨w.heap.size + 1, 0, none⟩) (by dsimp only; omega) (.int .i64 gk)).far (p := ⟨w.heap.size + 1, 1, none⟩) (by dsimp only; omega) (.int .i64 gq))
 have K2 := Ho.mk ((((K2.out.far (p := ⟨w.heap.size, 0, none⟩) (by dsimp only; omega) (.int .i64 fk)).far (p := ⟨w.heap.size, 1, none⟩) (by dsimp only; omega) (.int .i64 fq)).set 0 (.int .i64 gk)).set 1 (.int .i64 gq))
 have KR1 := Ho.mk ((((KR1.out.far (p := ⟨w.heap.size, 0, none⟩) (by dsimp only; omega) (.int .i64 fk)).far (p := ⟨w.heap.size, 1, none⟩) (by dsimp only; omega) (.int .i64 fq)).far (p := ⟨w.heap.size + 1, 0, none⟩) (by dsimp only; omega) (.int .i64 gk)).far (p := ⟨w.heap.size + 1, 1, none⟩) (by dsimp only; omega) (.int .i64 gq))
 have gg := Ho.mk (show Bel w ((((w2.setCell ⟨w.heap.size, 0, none⟩ (.int .i64 fk)).setCell ⟨w.heap.size, 1, none⟩ (.int .i64 fq)).setCell ⟨w.heap.size + 1, 0, none⟩ (.int .i64 gk)).setCell ⟨w.heap.size + 1, 1, none⟩ (.int .i64 gq)) from
  ⟨(((gg.out.out.setCell (p := ⟨w.heap.size, 0, none⟩) (Nat.le_refl _) _).setCell (p := ⟨w.heap.size, 1, none⟩) (Nat.le_refl _) _).setCell (p := ⟨w.heap.size + 1, 0, none⟩) (Nat.le_succ _) _).setCell (p := ⟨w.heap.size + 1, 1, none⟩) (Nat.le_succ _) _⟩)
 clear y0 y1 x0 x1 z0 z1 v0 v1
 generalize (((w2.setCell ⟨w.heap.size, 0, none⟩ (.int .i64 fk)).setCell ⟨w.heap.size, 1, none⟩ (.int .i64 fq)).setCell ⟨w.heap.size + 1, 0, none⟩ (.int .i64 gk)).setCell ⟨w.heap.size + 1, 1, none⟩ (.int .i64 gq) = W3 at *
 have y0 := K1.out.cell (i := 0) rfl
 have y1 := K1.out.cell (i := 1) rfl
 have x0 := K2.out.cell (i := 0) rfl
 have x1 := K2.out.cell (i := 1) rfl
 go_wp2_with (simp only [hq])
 refine I7.wp_region_late 18 (S := fun w' => Bel W3 w') (by kernel_rfl) (Bel.refl _).drew (fun hHeld => ?_)
 (try dsimp only at hHeld)
 refine I7.kt (i := 0) hHeld ?_
 refine I7.kl (i := 1) (v := ?_) hHeld (fun w hSw => ?_) ?_
 rotate_left
 ·(have z0 := hSw.cell y0; go_simp; try (with_reducible rfl))
 refine I7.kt (i := 2) hHeld ?_
 refine I7.kt (i := 3) hHeld ?_
 refine I7.kl (i := 4) (v := ?_) hHeld (fun w hSw => ?_) ?_
 rotate_left
 ·(have z0 := hSw.cell y1; go_simp; try (with_reducible rfl))
 refine I7.kt (i := 5) hHeld ?_
 refine I7.kt (i := 6) hHeld ?_
 refine I7.kt (i := 7) hHeld ?_
 refine I7.kl (i := 8) (v := ?_) hHeld (fun w hSw => ?_) ?_
 rotate_left
 ·(have z0 := hSw.cell x0; go_simp; try (with_reducible rfl))
 refine I7.kt (i := 9) hHeld ?_
 refine I7.kt (i := 10) hHeld ?_
 refine I7.kl (i := 11) (v := ?_) hHeld (fun w hSw => ?_) ?_
 rotate_left
 ·(have z0 := hSw.cell x1; go_simp; try (with_reducible rfl))
 refine I7.kt (i := 12) hHeld ?_
 refine I7.kt (i := 13) hHeld ?_
 refine I7.kt (i := 14) hHeld ?_
 refine I7.kt (i := 15) hHeld ?_
 refine I7.kt (i := 16) hHeld ?_
 try simp only [Act.put, List.setIfInBounds_toArray, List.set_cons_zero, List.set_cons_succ]
 refine I7.kc (i := 17) (fun K hK => ?_)
 go_simp
 go_at_call 169
 (with_reducible refine (F3.out _ (TT.out.bel (gg.out.trans hHeld))).mono ?_); rintro e w4 ⟨rfl, b4⟩
 try go_wp2_with fail
 refine hK.out _ _ (Bel.trans hHeld b4) (fun hHeld => ?_)
 clear hK K
 have KR2 := Ho.mk (KR1.out.bel hHeld)
 have gz := Ho.mk (gg.out.trans hHeld)
 clear y0 y1 x0 x1 hHeld
 have y0 := KR2.out.cell (i := 0) rfl
 have y1 := KR2.out.cell (i := 1) rfl
 have z0 := KR2.out.free 0
 have z1 := KR2.out.free 1
 try simp only [Act.put, List.setIfInBounds_toArray, List.set_cons_zero, List.set_cons_succ]
 refine I7.ke (i := 18) (fun K hK => ?_)
 go_simp
 refine hK.out _ _ ?_
 clear hK K
 try simp only [Act.put, List.setIfInBounds_toArray, List.set_cons_zero, List.set_cons_succ]
 refine wpAny_done (by kernel_rfl) ?_ _
 clear y0 y1 z0 z1
 have y0 := KR2.out.cell (i := 0) rfl
 have y1 := KR2.out.cell (i := 1) rfl
 have z0 := KR2.out.free 0
 have z1 := KR2.out.free 1
 go_wp2
 exact gives_endT (fn := Tryz.f172) rfl rfl gz.out (by omega) KR2.out rfl rfl
theorem form_lt (k : Int) {q : Nat} (hq : q ≤ 20) : (formN k q).1 < 2 ^ q ∧ (formN k q).2 ≤ q := by
 have hp1 : (0 : Int) < 2 ^ q := Int.pow_pos (by decide)
 have hp0 : ((2 : Int) ^ q) = ((2 ^ q : Nat) : Int) := by simp
 have g0 := Int.emod_nonneg k (Int.ne_of_gt hp1)
 have g1 := Int.emod_lt_of_pos k hp1
 unfold formN
 split
 ·exact ⟨Nat.two_pow_pos q, Nat.zero_le _⟩
 ·refine ⟨Nat.lt_of_le_of_lt (Nat.div_le_self _ _) ?_, Nat.sub_le _ _⟩
  rw [hp0] at *; omega
theorem up_wrap {a d : Nat} (ha : a < 2 ^ 20) (hd : d ≤ 20) (x y : Int) (hx : IntKind.i64.wrap (x - y) = (d : Int)) : IntKind.i64.wrap ((a : Int) * 2 ^ min (IntKind.i64.wrap (x - y)).toNat 64) = ((a * 2 ^ d : Nat) : Int) := by
 rw [hx, Int.toNat_natCast, Nat.min_eq_left (by omega)]
 have h2 : 2 ^ d ≤ 2 ^ 20 := Nat.pow_le_pow_right (by decide) hd
 have h3 : a * 2 ^ d ≤ 2 ^ 20 * 2 ^ 20 := Nat.mul_le_mul (Nat.le_of_lt ha) h2
 have e : (a : Int) * 2 ^ d = ((a * 2 ^ d : Nat) : Int) := by simp
 rw [e]
 generalize a * 2 ^ d = z at *
 have : (2 : Nat) ^ 20 * 2 ^ 20 = 1099511627776 := by decide
 rw [IntKind.wrap_i64]; omega
theorem dAddT {a b : Nat × Nat} (w : World) (T : Tab w) (ha : a.2 ≤ 20) (hb : b.2 ≤ 20) {k1 q1 k2 q2 : Int} (e1 : (a.1 : Int) = k1) (e2 : (a.2 : Int) = q1) (e3 : (b.1 : Int) = k2) (e4 : (b.2 : Int) = q2) :
  Calls Tryz.prog 172 #[.agg #[.int .i64 k1, .int .i64 q1], .agg #[.int .i64 k2, .int .i64 q2]] w (MakesT w (addT a b)) := by
 subst e1 e2 e3 e4
 obtain ⟨f1, f2⟩ := form_lt (a.1 : Int) ha
 obtain ⟨g1, g2⟩ := form_lt (b.1 : Int) hb
 have p20 : (2 : Nat) ^ 20 = 1048576 := by decide
 have pa : (2 : Nat) ^ a.2 ≤ 2 ^ 20 := Nat.pow_le_pow_right (by decide) ha
 have pb : (2 : Nat) ^ b.2 ≤ 2 ^ 20 := Nat.pow_le_pow_right (by decide) hb
 have hq : (if ((formN (a.1 : Int) a.2).2 : Int) < ((formN (b.1 : Int) b.2).2 : Int) then ((formN (b.1 : Int) b.2).2 : Int) else ((formN (a.1 : Int) a.2).2 : Int)) = ((max (formN (a.1 : Int) a.2).2 (formN (b.1 : Int) b.2).2 : Nat) : Int) := by split <;> omega
 refine dAdd (f := formN (a.1 : Int) a.2) (g := formN (b.1 : Int) b.2) (qq := ((max (formN (a.1 : Int) a.2).2 (formN (b.1 : Int) b.2).2 : Nat) : Int)) w T rfl rfl ha hb rfl rfl (by omega) (by omega) (by omega) (by omega) hq rfl (by omega)
  (up_wrap (d := max (formN (a.1 : Int) a.2).2 (formN (b.1 : Int) b.2).2 - (formN (a.1 : Int) a.2).2) (by omega) (by omega) _ _ (by rw [IntKind.wrap_i64]; omega))
  (up_wrap (d := max (formN (a.1 : Int) a.2).2 (formN (b.1 : Int) b.2).2 - (formN (b.1 : Int) b.2).2) (by omega) (by omega) _ _ (by rw [IntKind.wrap_i64]; omega)) rfl ?_
 unfold addT
 dsimp only
 have b1 : (formN (a.1 : Int) a.2).1 * 2 ^ (max (formN (a.1 : Int) a.2).2 (formN (b.1 : Int) b.2).2 - (formN (a.1 : Int) a.2).2) ≤ 2 ^ 20 * 2 ^ 20 := Nat.mul_le_mul (by omega) (Nat.pow_le_pow_right (by decide) (by omega))
 have b2 : (formN (b.1 : Int) b.2).1 * 2 ^ (max (formN (a.1 : Int) a.2).2 (formN (b.1 : Int) b.2).2 - (formN (b.1 : Int) b.2).2) ≤ 2 ^ 20 * 2 ^ 20 := Nat.mul_le_mul (by omega) (Nat.pow_le_pow_right (by decide) (by omega))
 generalize (formN (a.1 : Int) a.2).1 * 2 ^ (max (formN (a.1 : Int) a.2).2 (formN (b.1 : Int) b.2).2 - (formN (a.1 : Int) a.2).2) = x at *
 generalize (formN (b.1 : Int) b.2).1 * 2 ^ (max (formN (a.1 : Int) a.2).2 (formN (b.1 : Int) b.2).2 - (formN (b.1 : Int) b.2).2) = y at *
 rw [p20] at b1 b2
 congr 1
 rw [IntKind.wrap_i64]; omega
def MakesS (w : World) (s : Nat × (Nat × Nat)) (e : Ending) (w' : World) : Prop := e = .returned (.agg #[.int .i64 s.1, .int .i64 s.2.1, .int .i64 s.2.2]) ∧ Bel w w'
theorem res3p {fn : Func} {p : Tmp} {tmps : Array Value} {w : World} {b : Nat} {v0 v1 v2 : Value} (hf : fn.results = #[.cell p 175]) (hp : tmps.getD p undef = .pointer (some ⟨b, 0, none⟩)) (h : Blk w b 175 [v0, v1, v2]) :
  (results fn tmps).run Tryz.prog w = .ok (.agg #[v0, v1, v2]) w := by
 have y0 := h.cell (i := 0) rfl
 have y1 := h.cell (i := 1) rfl
 have y2 := h.cell (i := 2) rfl
 have hp2 := hp
 rw [Array.getD_eq_getD_getElem?] at hp2
 simp [results, hf, hp2, go_sem, y0, y1, y2]
theorem gives_endS {fn : Func} {p : Tmp} {tmps : Array Value} {w w2 : World} {b : Nat} {s : Nat × (Nat × Nat)} {e k q : Int} {u0 u1 u2 : Value} (hf : fn.results = #[.cell p 175]) (hp : tmps.getD p undef = .pointer (some ⟨b, 0, none⟩)) (hB : Bel w w2) (hb : w.heap.size ≤ b)
  (K : Blk w2 b 175 [u0, u1, u2]) (he : e = s.1) (hk : k = s.2.1) (hq : q = s.2.2) :
  bodyPost Tryz.prog fn (MakesS w s) .ret { tmps := tmps, defers := [] } (((w2.setCell ⟨b, 0, none⟩ (.int .i64 e)).setCell ⟨b, 1, none⟩ (.int .i64 k)).setCell ⟨b, 2, none⟩ (.int .i64 q)) := by
 subst he; subst hk; subst hq
 exact bodyPost_ret (res3p hf hp (((K.set 0 _).set 1 _).set 2 _)) rfl ⟨rfl, ⟨((hB.out.setCell (p := ⟨b, 0, none⟩) hb _).setCell (p := ⟨b, 1, none⟩) hb _).setCell (p := ⟨b, 2, none⟩) hb _⟩⟩
theorem split_zero {k qi fk fq e : Int} {q : Nat} {g r r2 : Nat × Nat} {s : Nat × (Nat × Nat)} (w : World) (T : Tab w) (h1 : (q : Int) = qi) (hq : q ≤ 20) (hf : ((formN k q).1 : Int) = fk) (hf2 : ((formN k q).2 : Int) = fq) (z1 : fk = 0) (z2 : fq = 0) (hs : s = (0, (0, 0))) :
  Calls Tryz.prog 156 #[.agg #[.int .i64 k, .int .i64 qi]] w (MakesS w s) := by
 have FO := Ho.mk (fun w T => dForm (k := k) w T h1 hq)
 unfold MakesT at FO
 rw [hf, hf2] at FO
 have HS := Ho.mk hs
 have TT := Ho.mk T
 clear T hs hf hf2 h1 hq
 go_enter Tryz.func156, Tryz.ntmps156
 go_wp2_with fail
 have KB := Ho.mk ((Blk.new w [.int .i64 k, .int .i64 qi] 79).old (.cells #[.int .i64 0, .int .i64 0, .int .i64 0] 175))
 have KR := Ho.mk (Blk.new (w.alloc (.cells #[.int .i64 k, .int .i64 qi] 79)) [.int .i64 0, .int .i64 0, .int .i64 0] 175)
 rw [World.size_alloc] at KR
 have g0 := Ho.mk (((Bel.refl w).alloc (.cells #[.int .i64 k, .int .i64 qi] 79)).alloc (.cells #[.int .i64 0, .int .i64 0, .int .i64 0] 175))
 have hS : ((w.alloc (.cells #[.int .i64 k, .int .i64 qi] 79)).alloc (.cells #[.int .i64 0, .int .i64 0, .int .i64 0] 175)).heap.size = w.heap.size + 1 + 1 := by simp only [World.size_alloc]
 generalize ((w.alloc (.cells #[.int .i64 k, .int .i64 qi] 79)).alloc (.cells #[.int .i64 0, .int .i64 0, .int .i64 0] 175)) = W at *
 have y0 := KB.out.cell (i := 0) rfl
 have y1 := KB.out.cell (i := 1) rfl
 go_wp2_with fail
 (with_reducible refine (FO.out _ (TT.out.bel g0.out)).mono ?_); rintro e w1 ⟨rfl, b1⟩
 subst z1; subst z2
 have KR1 := Ho.mk ((KR.out.bel b1).old (.cells #[.int .i64 0, .int .i64 0] 79))
 have gg := Ho.mk ((g0.out.trans b1).alloc (.cells #[.int .i64 0, .int .i64 0] 79))
 have KF := Ho.mk (Blk.new w1 [.int .i64 0, .int .i64 0] 79)
 have hF : w.heap.size + 2 ≤ w1.heap.size := by have := b1.size; omega
 clear y0 y1 b1
 have y0 := KF.out.cell (i := 0) rfl
 have y1 := KF.out.cell (i := 1) rfl
 have x0 := KR1.out.cell (i := 0) rfl
 have x1 := KR1.out.cell (i := 1) rfl
 have x2 := KR1.out.cell (i := 2) rfl
 have z0 := KR1.out.free 0
 have z1 := KR1.out.free 1
 have z2 := KR1.out.free 2
 go_wp2
 rw [HS.out]
 exact gives_endS (fn := Tryz.f156) (s := (0, (0, 0))) rfl rfl gg.out (by omega) KR1.out rfl rfl rfl
theorem split_le {k qi fk fq e : Int} {q : Nat} {g r r2 : Nat × Nat} {s : Nat × (Nat × Nat)} (w : World) (T : Tab w) (h1 : (q : Int) = qi) (hq : q ≤ 20) (hf : ((formN k q).1 : Int) = fk) (hf2 : ((formN k q).2 : Int) = fq) (z1 : (fk == 0) = false) (p1 : 0 ≤ fq) (p2 : fq ≤ 20) (l1 : fq < 3) (l2 : wrap64 (fk * 2 ^ (3 - fq).toNat) = e) (z2 : (e == 0) = false) (h2 : bits .and .i64 e 1 = 0) (e0 : 0 ≤ e) (e1 : e ≤ 10) (hg : (g.1 : Int) = e) (hg2 : (g.2 : Int) = 3) (hg3 : g.2 ≤ 20) (hr : addT g (formN (-e) 3) = r) (hs : s = (e.toNat, r)) :
  Calls Tryz.prog 156 #[.agg #[.int .i64 k, .int .i64 qi]] w (MakesS w s) := by
 have FO := Ho.mk (fun w T => dForm (k := k) w T h1 hq)
 unfold MakesT at FO
 rw [hf, hf2] at FO
 have HS := Ho.mk hs
 have TT := Ho.mk T
 have FR := Ho.mk (fun w T => dFrom (k := e) w T (by omega) (by omega))
 have AD := Ho.mk (fun w T => dAddT (a := g) (b := formN (-(e)) 3) w T hg3 (by have := (form_lt (-(e)) (q := 3) (by decide)).2; omega) hg hg2 rfl rfl)
 rw [hr] at AD
 unfold MakesT at FR AD
 clear hr hg hg2 hg3
 clear T hs hf hf2 h1 hq
 go_enter Tryz.func156, Tryz.ntmps156
 go_wp2_with fail
 have KB := Ho.mk ((Blk.new w [.int .i64 k, .int .i64 qi] 79).old (.cells #[.int .i64 0, .int .i64 0, .int .i64 0] 175))
 have KR := Ho.mk (Blk.new (w.alloc (.cells #[.int .i64 k, .int .i64 qi] 79)) [.int .i64 0, .int .i64 0, .int .i64 0] 175)
 rw [World.size_alloc] at KR
 have g0 := Ho.mk (((Bel.refl w).alloc (.cells #[.int .i64 k, .int .i64 qi] 79)).alloc (.cells #[.int .i64 0, .int .i64 0, .int .i64 0] 175))
 have hS : ((w.alloc (.cells #[.int .i64 k, .int .i64 qi] 79)).alloc (.cells #[.int .i64 0, .int .i64 0, .int .i64 0] 175)).heap.size = w.heap.size + 1 + 1 := by simp only [World.size_alloc]
 generalize ((w.alloc (.cells #[.int .i64 k, .int .i64 qi] 79)).alloc (.cells #[.int .i64 0, .int .i64 0, .int .i64 0] 175)) = W at *
 have y0 := KB.out.cell (i := 0) rfl
 have y1 := KB.out.cell (i := 1) rfl
 go_wp2_with fail
 (with_reducible refine (FO.out _ (TT.out.bel g0.out)).mono ?_); rintro e w1 ⟨rfl, b1⟩
 have KF0 := Ho.mk (Blk.new w1 [.int .i64 fk, .int .i64 fq] 79)
 have KR1 := Ho.mk ((KR.out.bel b1).old (.cells #[.int .i64 e, .int .i64 3] 79))
 have gg := Ho.mk ((g0.out.trans b1).alloc (.cells #[.int .i64 e, .int .i64 3] 79))
 have KF := Ho.mk (Blk.new w1 [.int .i64 e, .int .i64 3] 79)
 have hF : w.heap.size + 2 ≤ w1.heap.size := by have := b1.size; omega
 clear y0 y1 b1
 have y0 := KF0.out.cell (i := 0) rfl
 have y1 := KF0.out.cell (i := 1) rfl
 have v0 := KF0.out.free 0
 have v1 := KF0.out.free 1
 go_wp2_with (simp only [l2])
 clear y0 y1 v0 v1 KF0
 generalize w1.alloc (.cells #[.int .i64 e, .int .i64 3] 79) = W1 at *
 generalize w1.heap.size = bf at *
 have y0 := KF.out.cell (i := 0) rfl
 have y1 := KF.out.cell (i := 1) rfl
 refine I7.wp_region_late 7 (S := fun w' => Bel W1 w') (by kernel_rfl) (Bel.refl _).drew (fun hHeld => ?_)
 (try dsimp only at hHeld)
 refine I7.kt (i := 0) hHeld ?_
 refine I7.kl (i := 1) (v := ?_) hHeld (fun w hSw => ?_) ?_
 rotate_left
 ·(have z0 := hSw.cell y0; have z1 := hSw.cell y1; go_simp; try (with_reducible rfl))
 refine I7.kt (i := 2) hHeld ?_
 refine I7.kt (i := 3) hHeld ?_
 try simp only [Act.put, List.setIfInBounds_toArray, List.set_cons_zero, List.set_cons_succ]
 refine I7.kc (i := 4) (fun K hK => ?_)
 go_simp
 go_at_call 170
 (with_reducible refine (FR.out _ (TT.out.bel (gg.out.trans hHeld))).mono ?_); rintro e w3 ⟨rfl, b3⟩
 try go_wp2_with fail
 refine hK.out _ _ (Bel.trans hHeld b3) (fun hHeld => ?_)
 clear hK K
 try simp only [Act.put, List.setIfInBounds_toArray, List.set_cons_zero, List.set_cons_succ]
 refine I7.kc (i := 5) (fun K hK => ?_)
 go_simp
 go_at_call 172
 (with_reducible refine (AD.out _ (TT.out.bel (gg.out.trans hHeld))).mono ?_); rintro e w4 ⟨rfl, b4⟩
 try go_wp2_with fail
 refine hK.out _ _ (Bel.trans hHeld b4) (fun hHeld => ?_)
 clear hK K
 refine I7.kt (i := 6) hHeld ?_
 have KR2 := Ho.mk (KR1.out.bel hHeld)
 have gz := Ho.mk (gg.out.trans hHeld)
 clear y0 y1 hHeld
 have x0 := KR2.out.cell (i := 0) rfl
 have x1 := KR2.out.cell (i := 1) rfl
 have x2 := KR2.out.cell (i := 2) rfl
 have z0 := KR2.out.free 0
 have z1 := KR2.out.free 1
 have z2 := KR2.out.free 2
 try simp only [Act.put, List.setIfInBounds_toArray, List.set_cons_zero, List.set_cons_succ]
 refine I7.ke (i := 7) (fun K hK => ?_)
 go_simp
 refine hK.out _ _ ?_
 clear hK K
 try simp only [Act.put, List.setIfInBounds_toArray, List.set_cons_zero, List.set_cons_succ]
 refine wpAny_done (by kernel_rfl) ?_ _
 go_wp2
 rw [HS.out]
 exact gives_endS (fn := Tryz.f156) (s := (e.toNat, r)) rfl rfl gz.out (by omega) KR2.out (by dsimp only; omega) rfl rfl
theorem split_lo {k qi fk fq e : Int} {q : Nat} {g r r2 : Nat × Nat} {s : Nat × (Nat × Nat)} (w : World) (T : Tab w) (h1 : (q : Int) = qi) (hq : q ≤ 20) (hf : ((formN k q).1 : Int) = fk) (hf2 : ((formN k q).2 : Int) = fq) (z1 : (fk == 0) = false) (p1 : 0 ≤ fq) (p2 : fq ≤ 20) (l1 : fq < 3) (l2 : wrap64 (fk * 2 ^ (3 - fq).toNat) = e) (z2 : (e == 0) = false) (h2 : bits .and .i64 e 1 = 1) (e0 : 0 ≤ e) (e1 : e ≤ 10) (hg : (g.1 : Int) = e) (hg2 : (g.2 : Int) = 3) (hg3 : g.2 ≤ 20) (hr : flipT (addT g (formN (-(e + 1)) 3)) = r) (hr2 : addT g (formN (-(e + 1)) 3) = r2) (hr3 : r2.1 ≤ 1000000 ∧ r2.2 ≤ 20) (hs : s = (e.toNat, r)) :
  Calls Tryz.prog 156 #[.agg #[.int .i64 k, .int .i64 qi]] w (MakesS w s) := by
 have FO := Ho.mk (fun w T => dForm (k := k) w T h1 hq)
 unfold MakesT at FO
 rw [hf, hf2] at FO
 have HS := Ho.mk hs
 have TT := Ho.mk T
 have FR := Ho.mk (fun w T => dFrom (k := e + 1) w T (by omega) (by omega))
 have AD := Ho.mk (fun w T => dAddT (a := g) (b := formN (-(e + 1)) 3) w T hg3 (by have := (form_lt (-(e + 1)) (q := 3) (by decide)).2; omega) hg hg2 rfl rfl)
 have hw : IntKind.i64.wrap (e + 1) = e + 1 := by rw [IntKind.wrap_i64]; omega
 rw [hr2] at AD hr
 have FL := Ho.mk (fun w T => dFlip (k := r2.1) (q := r2.2) w T rfl hr3.2 (by omega) (by have := hr3.1; omega))
 rw [show formN (-(r2.1 : Int)) r2.2 = r from hr] at FL
 clear hr2 hr3
 unfold MakesT at FR AD FL
 clear hr hg hg2 hg3
 clear T hs hf hf2 h1 hq
 go_enter Tryz.func156, Tryz.ntmps156
 go_wp2_with fail
 have KB := Ho.mk ((Blk.new w [.int .i64 k, .int .i64 qi] 79).old (.cells #[.int .i64 0, .int .i64 0, .int .i64 0] 175))
 have KR := Ho.mk (Blk.new (w.alloc (.cells #[.int .i64 k, .int .i64 qi] 79)) [.int .i64 0, .int .i64 0, .int .i64 0] 175)
 rw [World.size_alloc] at KR
 have g0 := Ho.mk (((Bel.refl w).alloc (.cells #[.int .i64 k, .int .i64 qi] 79)).alloc (.cells #[.int .i64 0, .int .i64 0, .int .i64 0] 175))
 have hS : ((w.alloc (.cells #[.int .i64 k, .int .i64 qi] 79)).alloc (.cells #[.int .i64 0, .int .i64 0, .int .i64 0] 175)).heap.size = w.heap.size + 1 + 1 := by simp only [World.size_alloc]
 generalize ((w.alloc (.cells #[.int .i64 k, .int .i64 qi] 79)).alloc (.cells #[.int .i64 0, .int .i64 0, .int .i64 0] 175)) = W at *
 have y0 := KB.out.cell (i := 0) rfl
 have y1 := KB.out.cell (i := 1) rfl
 go_wp2_with fail
 (with_reducible refine (FO.out _ (TT.out.bel g0.out)).mono ?_); rintro e w1 ⟨rfl, b1⟩
 have KF0 := Ho.mk (Blk.new w1 [.int .i64 fk, .int .i64 fq] 79)
 have KR1 := Ho.mk ((KR.out.bel b1).old (.cells #[.int .i64 e, .int .i64 3] 79))
 have gg := Ho.mk ((g0.out.trans b1).alloc (.cells #[.int .i64 e, .int .i64 3] 79))
 have KF := Ho.mk (Blk.new w1 [.int .i64 e, .int .i64 3] 79)
 have hF : w.heap.size + 2 ≤ w1.heap.size := by have := b1.size; omega
 clear y0 y1 b1
 have y0 := KF0.out.cell (i := 0) rfl
 have y1 := KF0.out.cell (i := 1) rfl
 have v0 := KF0.out.free 0
 have v1 := KF0.out.free 1
 go_wp2_with (simp only [l2])
 clear y0 y1 v0 v1 KF0
 generalize w1.alloc (.cells #[.int .i64 e, .int .i64 3] 79) = W1 at *
 generalize w1.heap.size = bf at *
 have y0 := KF.out.cell (i := 0) rfl
 have y1 := KF.out.cell (i := 1) rfl
 refine I7.wp_region_late 9 (S := fun w' => Bel W1 w') (by kernel_rfl) (Bel.refl _).drew (fun hHeld => ?_)
 (try dsimp only at hHeld)
 refine I7.kt (i := 0) hHeld ?_
 refine I7.kl (i := 1) (v := ?_) hHeld (fun w hSw => ?_) ?_
 rotate_left
 ·(have z0 := hSw.cell y0; have z1 := hSw.cell y1; go_simp; try (with_reducible rfl))
 refine I7.kt (i := 2) hHeld ?_
 refine I7.kt (i := 3) hHeld ?_
 refine I7.kt (i := 4) hHeld ?_
 try simp only [Act.put, List.setIfInBounds_toArray, List.set_cons_zero, List.set_cons_succ]
 refine I7.kc (i := 5) (fun K hK => ?_)
 go_simp
 go_at_call 170
 (with_reducible refine (FR.out _ (TT.out.bel (gg.out.trans hHeld))).mono ?_); rintro e w3 ⟨rfl, b3⟩
 try go_wp2_with fail
 refine hK.out _ _ (Bel.trans hHeld b3) (fun hHeld => ?_)
 clear hK K
 try simp only [Act.put, List.setIfInBounds_toArray, List.set_cons_zero, List.set_cons_succ]
 refine I7.kc (i := 6) (fun K hK => ?_)
 go_simp
 go_at_call 172
 (with_reducible refine (AD.out _ (TT.out.bel (gg.out.trans hHeld))).mono ?_); rintro e w4 ⟨rfl, b4⟩
 try go_wp2_with fail
 refine hK.out _ _ (Bel.trans hHeld b4) (fun hHeld => ?_)
 clear hK K
 try simp only [Act.put, List.setIfInBounds_toArray, List.set_cons_zero, List.set_cons_succ]
 refine I7.kc (i := 7) (fun K hK => ?_)
 go_simp
 go_at_call 171
 (with_reducible refine (FL.out _ (TT.out.bel (gg.out.trans hHeld))).mono ?_); rintro e w5 ⟨rfl, b5⟩
 try go_wp2_with fail
 refine hK.out _ _ (Bel.trans hHeld b5) (fun hHeld => ?_)
 clear hK K
 refine I7.kt (i := 8) hHeld ?_
 have KR2 := Ho.mk (KR1.out.bel hHeld)
 have gz := Ho.mk (gg.out.trans hHeld)
 clear y0 y1 hHeld
 have x0 := KR2.out.cell (i := 0) rfl
 have x1 := KR2.out.cell (i := 1) rfl
 have x2 := KR2.out.cell (i := 2) rfl
 have z0 := KR2.out.free 0
 have z1 := KR2.out.free 1
 have z2 := KR2.out.free 2
 try simp only [Act.put, List.setIfInBounds_toArray, List.set_cons_zero, List.set_cons_succ]
 refine I7.ke (i := 9) (fun K hK => ?_)
 go_simp
 refine hK.out _ _ ?_
 clear hK K
 try simp only [Act.put, List.setIfInBounds_toArray, List.set_cons_zero, List.set_cons_succ]
 refine wpAny_done (by kernel_rfl) ?_ _
 go_wp2
 rw [HS.out]
 exact gives_endS (fn := Tryz.f156) (s := (e.toNat, r)) rfl rfl gz.out (by omega) KR2.out (by dsimp only; omega) rfl rfl
theorem split_he {k qi fk fq e : Int} {q : Nat} {g r r2 : Nat × Nat} {s : Nat × (Nat × Nat)} (w : World) (T : Tab w) (h1 : (q : Int) = qi) (hq : q ≤ 20) (hf : ((formN k q).1 : Int) = fk) (hf2 : ((formN k q).2 : Int) = fq) (z1 : (fk == 0) = false) (p1 : 0 ≤ fq) (p2 : fq ≤ 20) (l1 : 3 ≤ fq) (he : fk / 2 ^ (fq - 3).toNat = e) (h2 : bits .and .i64 e 1 = 0) (e0 : 0 ≤ e) (e1 : e ≤ 10) (hg : (g.1 : Int) = fk) (hg2 : (g.2 : Int) = fq) (hg3 : g.2 ≤ 20) (hr : addT g (formN (-e) 3) = r) (hs : s = (e.toNat, r)) :
  Calls Tryz.prog 156 #[.agg #[.int .i64 k, .int .i64 qi]] w (MakesS w s) := by
 have FO := Ho.mk (fun w T => dForm (k := k) w T h1 hq)
 unfold MakesT at FO
 rw [hf, hf2] at FO
 have HS := Ho.mk hs
 have TT := Ho.mk T
 have FR := Ho.mk (fun w T => dFrom (k := e) w T (by omega) (by omega))
 have AD := Ho.mk (fun w T => dAddT (a := g) (b := formN (-(e)) 3) w T hg3 (by have := (form_lt (-(e)) (q := 3) (by decide)).2; omega) hg hg2 rfl rfl)
 rw [hr] at AD
 unfold MakesT at FR AD
 clear hr hg hg2 hg3
 clear T hs hf hf2 h1 hq
 go_enter Tryz.func156, Tryz.ntmps156
 go_wp2_with fail
 have KB := Ho.mk ((Blk.new w [.int .i64 k, .int .i64 qi] 79).old (.cells #[.int .i64 0, .int .i64 0, .int .i64 0] 175))
 have KR := Ho.mk (Blk.new (w.alloc (.cells #[.int .i64 k, .int .i64 qi] 79)) [.int .i64 0, .int .i64 0, .int .i64 0] 175)
 rw [World.size_alloc] at KR
 have g0 := Ho.mk (((Bel.refl w).alloc (.cells #[.int .i64 k, .int .i64 qi] 79)).alloc (.cells #[.int .i64 0, .int .i64 0, .int .i64 0] 175))
 have hS : ((w.alloc (.cells #[.int .i64 k, .int .i64 qi] 79)).alloc (.cells #[.int .i64 0, .int .i64 0, .int .i64 0] 175)).heap.size = w.heap.size + 1 + 1 := by simp only [World.size_alloc]
 generalize ((w.alloc (.cells #[.int .i64 k, .int .i64 qi] 79)).alloc (.cells #[.int .i64 0, .int .i64 0, .int .i64 0] 175)) = W at *
 have y0 := KB.out.cell (i := 0) rfl
 have y1 := KB.out.cell (i := 1) rfl
 go_wp2_with fail
 (with_reducible refine (FO.out _ (TT.out.bel g0.out)).mono ?_); rintro e w1 ⟨rfl, b1⟩
 have KF0 := Ho.mk (Blk.new w1 [.int .i64 fk, .int .i64 fq] 79)
 have KR1 := Ho.mk ((KR.out.bel b1).old (.cells #[.int .i64 fk, .int .i64 fq] 79))
 have gg := Ho.mk ((g0.out.trans b1).alloc (.cells #[.int .i64 fk, .int .i64 fq] 79))
 have KF := Ho.mk (Blk.new w1 [.int .i64 fk, .int .i64 fq] 79)
 have hF : w.heap.size + 2 ≤ w1.heap.size := by have := b1.size; omega
 clear y0 y1 b1
 have y0 := KF0.out.cell (i := 0) rfl
 have y1 := KF0.out.cell (i := 1) rfl
 have v0 := KF0.out.free 0
 have v1 := KF0.out.free 1
 go_wp2_with (simp only [he])
 clear y0 y1 v0 v1 KF0
 generalize w1.alloc (.cells #[.int .i64 fk, .int .i64 fq] 79) = W1 at *
 generalize w1.heap.size = bf at *
 have y0 := KF.out.cell (i := 0) rfl
 have y1 := KF.out.cell (i := 1) rfl
 refine I7.wp_region_late 7 (S := fun w' => Bel W1 w') (by kernel_rfl) (Bel.refl _).drew (fun hHeld => ?_)
 (try dsimp only at hHeld)
 refine I7.kt (i := 0) hHeld ?_
 refine I7.kl (i := 1) (v := ?_) hHeld (fun w hSw => ?_) ?_
 rotate_left
 ·(have z0 := hSw.cell y0; have z1 := hSw.cell y1; go_simp; try (with_reducible rfl))
 refine I7.kt (i := 2) hHeld ?_
 refine I7.kt (i := 3) hHeld ?_
 try simp only [Act.put, List.setIfInBounds_toArray, List.set_cons_zero, List.set_cons_succ]
 refine I7.kc (i := 4) (fun K hK => ?_)
 go_simp
 go_at_call 170
 (with_reducible refine (FR.out _ (TT.out.bel (gg.out.trans hHeld))).mono ?_); rintro e w3 ⟨rfl, b3⟩
 try go_wp2_with fail
 refine hK.out _ _ (Bel.trans hHeld b3) (fun hHeld => ?_)
 clear hK K
 try simp only [Act.put, List.setIfInBounds_toArray, List.set_cons_zero, List.set_cons_succ]
 refine I7.kc (i := 5) (fun K hK => ?_)
 go_simp
 go_at_call 172
 (with_reducible refine (AD.out _ (TT.out.bel (gg.out.trans hHeld))).mono ?_); rintro e w4 ⟨rfl, b4⟩
 try go_wp2_with fail
 refine hK.out _ _ (Bel.trans hHeld b4) (fun hHeld => ?_)
 clear hK K
 refine I7.kt (i := 6) hHeld ?_
 have KR2 := Ho.mk (KR1.out.bel hHeld)
 have gz := Ho.mk (gg.out.trans hHeld)
 clear y0 y1 hHeld
 have x0 := KR2.out.cell (i := 0) rfl
 have x1 := KR2.out.cell (i := 1) rfl
 have x2 := KR2.out.cell (i := 2) rfl
 have z0 := KR2.out.free 0
 have z1 := KR2.out.free 1
 have z2 := KR2.out.free 2
 try simp only [Act.put, List.setIfInBounds_toArray, List.set_cons_zero, List.set_cons_succ]
 refine I7.ke (i := 7) (fun K hK => ?_)
 go_simp
 refine hK.out _ _ ?_
 clear hK K
 try simp only [Act.put, List.setIfInBounds_toArray, List.set_cons_zero, List.set_cons_succ]
 refine wpAny_done (by kernel_rfl) ?_ _
 go_wp2
 rw [HS.out]
 exact gives_endS (fn := Tryz.f156) (s := (e.toNat, r)) rfl rfl gz.out (by omega) KR2.out (by dsimp only; omega) rfl rfl
theorem split_ho {k qi fk fq e : Int} {q : Nat} {g r r2 : Nat × Nat} {s : Nat × (Nat × Nat)} (w : World) (T : Tab w) (h1 : (q : Int) = qi) (hq : q ≤ 20) (hf : ((formN k q).1 : Int) = fk) (hf2 : ((formN k q).2 : Int) = fq) (z1 : (fk == 0) = false) (p1 : 0 ≤ fq) (p2 : fq ≤ 20) (l1 : 3 ≤ fq) (he : fk / 2 ^ (fq - 3).toNat = e) (h2 : bits .and .i64 e 1 = 1) (e0 : 0 ≤ e) (e1 : e ≤ 10) (hg : (g.1 : Int) = fk) (hg2 : (g.2 : Int) = fq) (hg3 : g.2 ≤ 20) (hr : flipT (addT g (formN (-(e + 1)) 3)) = r) (hr2 : addT g (formN (-(e + 1)) 3) = r2) (hr3 : r2.1 ≤ 1000000 ∧ r2.2 ≤ 20) (hs : s = (e.toNat, r)) :
  Calls Tryz.prog 156 #[.agg #[.int .i64 k, .int .i64 qi]] w (MakesS w s) := by
 have FO := Ho.mk (fun w T => dForm (k := k) w T h1 hq)
 unfold MakesT at FO
 rw [hf, hf2] at FO
 have HS := Ho.mk hs
 have TT := Ho.mk T
 have FR := Ho.mk (fun w T => dFrom (k := e + 1) w T (by omega) (by omega))
 have AD := Ho.mk (fun w T => dAddT (a := g) (b := formN (-(e + 1)) 3) w T hg3 (by have := (form_lt (-(e + 1)) (q := 3) (by decide)).2; omega) hg hg2 rfl rfl)
 have hw : IntKind.i64.wrap (e + 1) = e + 1 := by rw [IntKind.wrap_i64]; omega
 rw [hr2] at AD hr
 have FL := Ho.mk (fun w T => dFlip (k := r2.1) (q := r2.2) w T rfl hr3.2 (by omega) (by have := hr3.1; omega))
 rw [show formN (-(r2.1 : Int)) r2.2 = r from hr] at FL
 clear hr2 hr3
 unfold MakesT at FR AD FL
 clear hr hg hg2 hg3
 clear T hs hf hf2 h1 hq
 go_enter Tryz.func156, Tryz.ntmps156
 go_wp2_with fail
 have KB := Ho.mk ((Blk.new w [.int .i64 k, .int .i64 qi] 79).old (.cells #[.int .i64 0, .int .i64 0, .int .i64 0] 175))
 have KR := Ho.mk (Blk.new (w.alloc (.cells #[.int .i64 k, .int .i64 qi] 79)) [.int .i64 0, .int .i64 0, .int .i64 0] 175)
 rw [World.size_alloc] at KR
 have g0 := Ho.mk (((Bel.refl w).alloc (.cells #[.int .i64 k, .int .i64 qi] 79)).alloc (.cells #[.int .i64 0, .int .i64 0, .int .i64 0] 175))
 have hS : ((w.alloc (.cells #[.int .i64 k, .int .i64 qi] 79)).alloc (.cells #[.int .i64 0, .int .i64 0, .int .i64 0] 175)).heap.size = w.heap.size + 1 + 1 := by simp only [World.size_alloc]
 generalize ((w.alloc (.cells #[.int .i64 k, .int .i64 qi] 79)).alloc (.cells #[.int .i64 0, .int .i64 0, .int .i64 0] 175)) = W at *
 have y0 := KB.out.cell (i := 0) rfl
 have y1 := KB.out.cell (i := 1) rfl
 go_wp2_with fail
 (with_reducible refine (FO.out _ (TT.out.bel g0.out)).mono ?_); rintro e w1 ⟨rfl, b1⟩
 have KF0 := Ho.mk (Blk.new w1 [.int .i64 fk, .int .i64 fq] 79)
 have KR1 := Ho.mk ((KR.out.bel b1).old (.cells #[.int .i64 fk, .int .i64 fq] 79))
 have gg := Ho.mk ((g0.out.trans b1).alloc (.cells #[.int .i64 fk, .int .i64 fq] 79))
 have KF := Ho.mk (Blk.new w1 [.int .i64 fk, .int .i64 fq] 79)
 have hF : w.heap.size + 2 ≤ w1.heap.size := by have := b1.size; omega
 clear y0 y1 b1
 have y0 := KF0.out.cell (i := 0) rfl
 have y1 := KF0.out.cell (i := 1) rfl
 have v0 := KF0.out.free 0
 have v1 := KF0.out.free 1
 go_wp2_with (simp only [he])
 clear y0 y1 v0 v1 KF0
 generalize w1.alloc (.cells #[.int .i64 fk, .int .i64 fq] 79) = W1 at *
 generalize w1.heap.size = bf at *
 have y0 := KF.out.cell (i := 0) rfl
 have y1 := KF.out.cell (i := 1) rfl
 refine I7.wp_region_late 9 (S := fun w' => Bel W1 w') (by kernel_rfl) (Bel.refl _).drew (fun hHeld => ?_)
 (try dsimp only at hHeld)
 refine I7.kt (i := 0) hHeld ?_
 refine I7.kl (i := 1) (v := ?_) hHeld (fun w hSw => ?_) ?_
 rotate_left
 ·(have z0 := hSw.cell y0; have z1 := hSw.cell y1; go_simp; try (with_reducible rfl))
 refine I7.kt (i := 2) hHeld ?_
 refine I7.kt (i := 3) hHeld ?_
 refine I7.kt (i := 4) hHeld ?_
 try simp only [Act.put, List.setIfInBounds_toArray, List.set_cons_zero, List.set_cons_succ]
 refine I7.kc (i := 5) (fun K hK => ?_)
 go_simp
 go_at_call 170
 (with_reducible refine (FR.out _ (TT.out.bel (gg.out.trans hHeld))).mono ?_); rintro e w3 ⟨rfl, b3⟩
 try go_wp2_with fail
 refine hK.out _ _ (Bel.trans hHeld b3) (fun hHeld => ?_)
 clear hK K
 try simp only [Act.put, List.setIfInBounds_toArray, List.set_cons_zero, List.set_cons_succ]
 refine I7.kc (i := 6) (fun K hK => ?_)
 go_simp
 go_at_call 172
 (with_reducible refine (AD.out _ (TT.out.bel (gg.out.trans hHeld))).mono ?_); rintro e w4 ⟨rfl, b4⟩
 try go_wp2_with fail
 refine hK.out _ _ (Bel.trans hHeld b4) (fun hHeld => ?_)
 clear hK K
 try simp only [Act.put, List.setIfInBounds_toArray, List.set_cons_zero, List.set_cons_succ]
 refine I7.kc (i := 7) (fun K hK => ?_)
 go_simp
 go_at_call 171
 (with_reducible refine (FL.out _ (TT.out.bel (gg.out.trans hHeld))).mono ?_); rintro e w5 ⟨rfl, b5⟩
 try go_wp2_with fail
 refine hK.out _ _ (Bel.trans hHeld b5) (fun hHeld => ?_)
 clear hK K
 refine I7.kt (i := 8) hHeld ?_
 have KR2 := Ho.mk (KR1.out.bel hHeld)
 have gz := Ho.mk (gg.out.trans hHeld)
 clear y0 y1 hHeld
 have x0 := KR2.out.cell (i := 0) rfl
 have x1 := KR2.out.cell (i := 1) rfl
 have x2 := KR2.out.cell (i := 2) rfl
 have z0 := KR2.out.free 0
 have z1 := KR2.out.free 1
 have z2 := KR2.out.free 2
 try simp only [Act.put, List.setIfInBounds_toArray, List.set_cons_zero, List.set_cons_succ]
 refine I7.ke (i := 9) (fun K hK => ?_)
 go_simp
 refine hK.out _ _ ?_
 clear hK K
 try simp only [Act.put, List.setIfInBounds_toArray, List.set_cons_zero, List.set_cons_succ]
 refine wpAny_done (by kernel_rfl) ?_ _
 go_wp2
 rw [HS.out]
 exact gives_endS (fn := Tryz.f156) (s := (e.toNat, r)) rfl rfl gz.out (by omega) KR2.out (by dsimp only; omega) rfl rfl
theorem and_one (e : Nat) (h : e < 1000) : bits .and .i64 (e : Int) 1 = ((e % 2 : Nat) : Int) := by
 have := i64_mask (e : Int) 1 (by decide)
 rw [show ((2 : Int) ^ 1 - 1) = 1 from by decide] at this
 rw [this]; simp
theorem tz_split2 {m : Nat} (h : m ≠ 0) : 0 < m / 2 ^ tz m := by
 have hd : odd m * 2 ^ tz m = m := odd_eq m
 have : m / 2 ^ tz m = odd m := rfl
 rw [this]
 rcases Nat.eq_zero_or_pos (odd m) with e | e
 ·rw [e, Nat.zero_mul] at hd; omega
 ·exact e
theorem add_small (a b : Nat × Nat) (ha : a.2 ≤ 9) (hb : b.2 ≤ 9) : (addT a b).1 ≤ 1000000 ∧ (addT a b).2 ≤ 20 := by
 unfold addT
 dsimp only
 have f1 := form_lt (a.1 : Int) (q := a.2) (by omega)
 have f2 := form_lt (b.1 : Int) (q := b.2) (by omega)
 have hm : max (formN (a.1 : Int) a.2).2 (formN (b.1 : Int) b.2).2 ≤ 9 := by omega
 obtain ⟨h1, h2⟩ := form_lt (((formN (a.1 : Int) a.2).1 * 2 ^ (max (formN (a.1 : Int) a.2).2 (formN (b.1 : Int) b.2).2 - (formN (a.1 : Int) a.2).2) + (formN (b.1 : Int) b.2).1 * 2 ^ (max (formN (a.1 : Int) a.2).2 (formN (b.1 : Int) b.2).2 - (formN (b.1 : Int) b.2).2) : Nat) : Int) (q := max (formN (a.1 : Int) a.2).2 (formN (b.1 : Int) b.2).2) (by omega)
 have hp : 2 ^ max (formN (a.1 : Int) a.2).2 (formN (b.1 : Int) b.2).2 ≤ 2 ^ 9 := Nat.pow_le_pow_right (by decide) hm
 have p9 : (2 : Nat) ^ 9 = 512 := by decide
 omega
theorem dSplit {k qi : Int} {q : Nat} (w : World) (T : Tab w) (hqi : (q : Int) = qi) (hq : q ≤ 9) : Calls Tryz.prog 156 #[.agg #[.int .i64 k, .int .i64 qi]] w (MakesS w (splitT k q)) := by
 obtain ⟨f1, f2⟩ := form_lt k (q := q) (by omega)
 have hpq : (2 : Nat) ^ q ≤ 2 ^ 9 := Nat.pow_le_pow_right (by decide) hq
 have p9 : (2 : Nat) ^ 9 = 512 := by decide
 have hz : (formN k q).1 = 0 → formN k q = (0, 0) := by
  unfold formN
  split
  ·intro _; rfl
  ·rename_i h
   intro h2
   exfalso
   have := tz_split2 h
   rw [← tzE_eq] at this
   dsimp only at h2
   rw [h2] at this; omega
 have hs := split_entry k hq
 by_cases h0 : formN k q = (0, 0)
 ·refine split_zero (fk := 0) (fq := 0) (e := 0) (g := (0, 0)) (r := (0, 0)) (r2 := (0, 0)) w T hqi (by omega) (by rw [h0]; rfl) (by rw [h0]; rfl) rfl rfl ?_
  unfold splitT
  rw [h0]; rfl
 ·have hk0 : (formN k q).1 ≠ 0 := fun e => h0 (hz e)
  have hne : (((formN k q).1 : Int) == 0) = false := beq_eq_false_iff_ne.2 (by omega)
  by_cases h3 : (formN k q).2 < 3
  ·have hup : upT (formN k q) = ((formN k q).1 * 2 ^ (3 - (formN k q).2), 3) := by unfold upT; rw [if_pos ⟨h3, h0⟩]
   have hpos : 0 < (formN k q).1 * 2 ^ (3 - (formN k q).2) := Nat.mul_pos (by omega) (Nat.two_pow_pos _)
   have hup0 : upT (formN k q) ≠ (0, 0) := by rw [hup]; intro e; injection e with e1 e2; omega
   have he : (upT (formN k q)).1 / 2 ^ ((upT (formN k q)).2 - 3) = (formN k q).1 * 2 ^ (3 - (formN k q).2) := by rw [hup]; exact Nat.div_one _
   have hst : splitT k q = if ((formN k q).1 * 2 ^ (3 - (formN k q).2)) % 2 = 0 then ((formN k q).1 * 2 ^ (3 - (formN k q).2), addT ((formN k q).1 * 2 ^ (3 - (formN k q).2), 3) (flipT ((formN k q).1 * 2 ^ (3 - (formN k q).2), 3)))
     else ((formN k q).1 * 2 ^ (3 - (formN k q).2), flipT (addT ((formN k q).1 * 2 ^ (3 - (formN k q).2), 3) (flipT ((formN k q).1 * 2 ^ (3 - (formN k q).2) + 1, 3)))) := by
    unfold splitT
    dsimp only
    rw [if_neg hup0, he, hup]
   have hle : (formN k q).1 * 2 ^ (3 - (formN k q).2) ≤ 7 := by
    have := hs.2.1
    rw [hst] at this
    split at this <;> exact this
   have e1 : ((formN k q).1 : Int) * 2 ^ (3 - ((formN k q).2 : Int)).toNat = (((formN k q).1 * 2 ^ (3 - (formN k q).2) : Nat) : Int) := by
    rw [show (3 - ((formN k q).2 : Int)).toNat = 3 - (formN k q).2 by omega]; simp
   generalize (formN k q).1 * 2 ^ (3 - (formN k q).2) = E at *
   by_cases ho : E % 2 = 0
   ·refine split_le (r2 := (0, 0)) (g := (E, 3)) (e := (E : Int)) w T hqi (by omega) rfl rfl hne (by omega) (by omega) (by omega) (by rw [e1]; unfold wrap64; omega) (beq_eq_false_iff_ne.2 (by omega)) (by rw [and_one E (by omega), ho]; rfl) (by omega) (by omega) rfl rfl (by dsimp only; omega) rfl ?_
    rw [hst, if_pos ho]; rfl
   ·refine split_lo (g := (E, 3)) (e := (E : Int)) w T hqi (by omega) rfl rfl hne (by omega) (by omega) (by omega) (by rw [e1]; unfold wrap64; omega) (beq_eq_false_iff_ne.2 (by omega)) (by rw [and_one E (by omega), show E % 2 = 1 by omega]; rfl) (by omega) (by omega) rfl rfl (by dsimp only; omega) rfl rfl ?_ ?_
    ·exact add_small _ _ (by dsimp only; omega) (Nat.le_trans (form_lt _ (q := 3) (by decide)).2 (by decide))
    ·rw [hst, if_neg ho]; rfl
  ·have hup : upT (formN k q) = formN k q := by unfold upT; rw [if_neg (fun h => h3 h.1)]
   have hst : splitT k q = if ((formN k q).1 / 2 ^ ((formN k q).2 - 3)) % 2 = 0 then ((formN k q).1 / 2 ^ ((formN k q).2 - 3), addT (formN k q) (flipT ((formN k q).1 / 2 ^ ((formN k q).2 - 3), 3)))
     else ((formN k q).1 / 2 ^ ((formN k q).2 - 3), flipT (addT (formN k q) (flipT ((formN k q).1 / 2 ^ ((formN k q).2 - 3) + 1, 3)))) := by
    unfold splitT
    dsimp only
    rw [hup, if_neg h0]
   have hle : (formN k q).1 / 2 ^ ((formN k q).2 - 3) ≤ 7 := by
    have := hs.2.1
    rw [hst] at this
    split at this <;> exact this
   have e1 : ((formN k q).1 : Int) / 2 ^ (((formN k q).2 : Int) - 3).toNat = (((formN k q).1 / 2 ^ ((formN k q).2 - 3) : Nat) : Int) := by
    rw [show (((formN k q).2 : Int) - 3).toNat = (formN k q).2 - 3 by omega]; simp
   generalize hE : (formN k q).1 / 2 ^ ((formN k q).2 - 3) = E at *
   by_cases ho : E % 2 = 0
   ·refine split_he (r2 := (0, 0)) (g := formN k q) (e := (E : Int)) w T hqi (by omega) rfl rfl hne (by omega) (by omega) (by omega) e1 (by rw [and_one E (by omega), ho]; rfl) (by omega) (by omega) rfl rfl (by omega) rfl ?_
    rw [hst, if_pos ho]; rfl
   ·refine split_ho (g := formN k q) (e := (E : Int)) w T hqi (by omega) rfl rfl hne (by omega) (by omega) (by omega) e1 (by rw [and_one E (by omega), show E % 2 = 1 by omega]; rfl) (by omega) (by omega) rfl rfl (by omega) rfl rfl ?_ ?_
    ·exact add_small _ _ (by omega) (Nat.le_trans (form_lt _ (q := 3) (by decide)).2 (by decide))
    ·rw [hst, if_neg ho]; rfl
end U1
end Go.Proofs.YtnbdoidccacdnaaGreatDoor
