/-
  The walks of package nat: how many bits.
-/
import Derived.Test.YtnmjnjhijcnbcaaDoorN5
set_option linter.unusedVariables false
namespace Go.Proofs.YtnmjnjhijcnbcaaDoor.N6
open Go.RowKit Go.Proofs.YtnmjnjhijcnbcaaDoor Go.Proofs.YtnmjnjhijcnbcaaDoor.Ow Go.Proofs.YtnmjnjhijcnbcaaDoor.Pl Go.Proofs.YtnmjnjhijcnbcaaDoor.N1 Go.Proofs.YtnmjnjhijcnbcaaDoor.N2 Go.Proofs.YtnmjnjhijcnbcaaDoor.N3 Go.Proofs.YtnmjnjhijcnbcaaDoor.N4 Go.Proofs.YtnmjnjhijcnbcaaDoor.N5
theorem ret_int {k : IntKind} {a b : Int} (h : a = b) : Ending.returned (.int k a) = .returned (.int k b) := by rw [h]
def tab : ByteArray := ⟨#[0, 1, 2, 2, 3, 3, 3, 3, 4, 4, 4, 4, 4, 4, 4, 4, 5, 5, 5, 5, 5, 5, 5, 5, 5, 5, 5, 5, 5, 5, 5, 5, 6, 6, 6, 6, 6, 6, 6, 6, 6, 6, 6, 6, 6, 6, 6, 6, 6, 6, 6, 6, 6, 6, 6, 6, 6, 6, 6, 6, 6, 6, 6, 6, 7, 7, 7, 7, 7, 7, 7, 7, 7, 7, 7, 7, 7, 7, 7, 7, 7, 7, 7, 7, 7, 7, 7, 7, 7, 7, 7, 7, 7, 7, 7, 7, 7, 7, 7, 7, 7, 7, 7, 7, 7, 7, 7, 7, 7, 7, 7, 7, 7, 7, 7, 7, 7, 7, 7, 7, 7, 7, 7, 7, 7, 7, 7, 7, 8, 8, 8, 8, 8, 8, 8, 8, 8, 8, 8, 8, 8, 8, 8, 8, 8, 8, 8, 8, 8, 8, 8, 8, 8, 8, 8, 8, 8, 8, 8, 8, 8, 8, 8, 8, 8, 8, 8, 8, 8, 8, 8, 8, 8, 8, 8, 8, 8, 8, 8, 8, 8, 8, 8, 8, 8, 8, 8, 8, 8, 8, 8, 8, 8, 8, 8, 8, 8, 8, 8, 8, 8, 8, 8, 8, 8, 8, 8, 8, 8, 8, 8, 8, 8, 8, 8, 8, 8, 8, 8, 8, 8, 8, 8, 8, 8, 8, 8, 8, 8, 8, 8, 8, 8, 8, 8, 8, 8, 8, 8, 8, 8, 8, 8, 8, 8, 8, 8, 8, 8, 8, 8, 8, 8, 8, 8, 8]⟩
theorem tab_all : ∀ n : Fin 256, (tab.data[n.1]!).toNat = blen n.1 := by decide +kernel
theorem tab_at (n : Nat) (h : n < tab.size) : (tab[n]'h).toNat = blen n := by
  have hs : tab.data.size = 256 := by decide +kernel
  have h' : n < 256 := by rw [← hs]; exact h
  have := tab_all ⟨n, h'⟩
  rw [getElem!_pos tab.data n (by omega)] at this
  exact this
theorem tab_wrap (n : Nat) (h : n < tab.size) (hn : n < 256) (c : Int) (h0 : 0 ≤ c) (h1 : c ≤ 100) : wrap64 (c + wrap64 ((tab[n]'h).toNat : Int)) = c + blen n := by
  rw [tab_at]
  have : blen n ≤ 8 := blen_le.2 (by omega)
  unfold wrap64; omega
theorem tab_wrap0 (n : Nat) (h : n < tab.size) (hn : n < 256) : wrap64 (wrap64 ((tab[n]'h).toNat : Int)) = blen n := by
  have := tab_wrap n h hn 0 (by omega) (by omega)
  rw [Int.zero_add, Int.zero_add] at this; exact this
theorem blen_div (x k : Nat) (h : 2 ^ k ≤ x) : blen x = k + blen (x / 2 ^ k) := by
  have hp : 0 < 2 ^ k := Nat.two_pow_pos k
  have e : x = x / 2 ^ k * 2 ^ k + x % 2 ^ k := by rw [Nat.mul_comm]; exact (Nat.div_add_mod x (2 ^ k)).symm
  have h0 : x / 2 ^ k ≠ 0 := by have := Nat.div_pos h hp; omega
  have := blen_shift h0 (Nat.mod_lt x hp)
  rw [← e] at this; omega
set_option maxRecDepth 100000 in
theorem len64_calls (x : Int) (w : World) (h0 : 0 ≤ x) (h1 : x < 16777216) : Calls Tryd.prog 104 #[.int .u64 x] w fun e w' => e = .returned (.int .i64 (blen x.toNat)) ∧ w = w' := by
  rcases Int.lt_or_le x 256 with h | h
  · clear h1
    go_enter Tryd.func104, Tryd.ntmps104
    go_wp2
    go_ret
    exact ⟨ret_int (tab_wrap0 x.toNat _ (by omega)), rfl⟩
  rcases Int.lt_or_le x 65536 with h' | h'
  · have hq0 : 0 ≤ x / 256 := by omega
    have hq1 : x / 256 < 256 := by omega
    go_enter Tryd.func104, Tryd.ntmps104
    go_wp2
    go_ret
    refine ⟨ret_int ((tab_wrap (x / 256).toNat _ (by omega) 8 (by omega) (by omega)).trans ?_), rfl⟩
    rw [blen_div x.toNat 8 (by omega), show (x / 256).toNat = x.toNat / 2 ^ 8 from by omega]; omega
  · have hq0 : 0 ≤ x / 65536 := by omega
    have hq1 : x / 65536 < 256 := by omega
    go_enter Tryd.func104, Tryd.ntmps104
    go_wp2
    go_ret
    refine ⟨ret_int ((tab_wrap (x / 65536).toNat _ (by omega) 16 (by omega) (by omega)).trans ?_), rfl⟩
    rw [blen_div x.toNat 16 (by omega), show (x / 65536).toNat = x.toNat / 2 ^ 16 from by omega]; omega
theorem len_calls (x : Int) (w : World) (h0 : 0 ≤ x) (h1 : x < 16777216) : Calls Tryd.prog 92 #[.int .u64 x] w fun e w' => e = .returned (.int .i64 (blen x.toNat)) ∧ w = w' := by
  go_enter Tryd.func92, Tryd.ntmps92
  go_wp2_with (go_at_call 104; (with_reducible refine (len64_calls _ _ h0 h1).mono ?_); rintro e w' ⟨rfl, rfl⟩)
  go_ret
  exact ⟨rfl, rfl⟩
/-- How many bits a natural has, by its highest limb. -/
theorem blen_digs (x : Nat) (h : x ≠ 0) : (blen x : Int) = 24 * ((digs x).length - 1 : Int) + blen (nth (digs x) ((digs x).length - 1)).toNat := by
  have hc := digs_can x
  have hv := digs_val x
  have hne : digs x ≠ [] := fun e => h (digs_nil.1 e)
  generalize digs x = l at *
  obtain ⟨n, hn⟩ : ∃ n, l.length = n + 1 := ⟨l.length - 1, by have := List.length_pos_iff.2 hne; omega⟩
  have e1 : l = l.take n ++ [nth l n] := by
    conv => lhs; rw [← List.take_length (l := l), hn, List.take_succ_eq_append_getElem (by omega)]
    rw [nth_lt (by omega)]
  have hv2 : val l = val (l.take n) + 16777216 ^ n * nth l n := by
    conv => lhs; rw [e1]
    rw [val_append, List.length_take, Nat.min_eq_left (by omega)]; simp [val]
  have h1 := val_nonneg (hc.1.take n)
  have h2 := val_lt (hc.1.take n)
  rw [List.length_take, Nat.min_eq_left (by omega)] at h2
  have h3 := hc.1.nth n
  have h4 : nth l n ≠ 0 := fun e => hc.2 (by rw [e1, e]; simp)
  rw [hn, show n + 1 - 1 = n from rfl]
  obtain ⟨t, ht⟩ : ∃ t : Nat, nth l n = t := ⟨(nth l n).toNat, by omega⟩
  obtain ⟨r, hr⟩ : ∃ r : Nat, val (l.take n) = r := ⟨(val (l.take n)).toNat, by omega⟩
  rw [ht] at hv2 h4 ⊢
  rw [hr] at hv2 h2
  have hp : (16777216 : Nat) ^ n = 2 ^ (24 * n) := by rw [Nat.pow_mul]
  rw [← pow_cast, hp] at hv2 h2
  have hx : x = t * 2 ^ (24 * n) + r := by
    rw [hv2] at hv
    have : ((t * 2 ^ (24 * n) + r : Nat) : Int) = x := by rw [← hv]; push_cast; rw [Int.mul_comm]; omega
    omega
  rw [hx, blen_shift (by omega) (by omega)]
  simp only [Int.toNat_natCast]
  omega
theorem natLen_calls (A : Option Addr) (c x : Nat) (w : World) (h : Rd w A (digs x)) :
    Calls Tryd.prog 63 #[.slice A (digs x).length c] w fun e w' => e = .returned (.int .i64 (blen x)) ∧ w = w' := by
  have hm := h.max
  by_cases h0 : x = 0
  · subst h0
    rw [digs_zero]
    go_enter Tryd.func63, Tryd.ntmps63
    go_wp2
    go_ret
    exact ⟨rfl, rfl⟩
  · have e := Ho.mk (blen_digs x h0)
    have F := (digs_can x).1.nth ((digs x).length - 1)
    have hne : digs x ≠ [] := fun e => h0 (digs_nil.1 e)
    clear h0
    generalize digs x = l at *
    obtain ⟨n, hn⟩ : ∃ n, l.length = n + 1 := ⟨l.length - 1, by have := List.length_pos_iff.2 hne; omega⟩
    obtain ⟨ad, rfl, hx⟩ := h.cell n (by omega)
    rw [hn] at F hm ⊢
    have E := e.out
    rw [hn, show n + 1 - 1 = n from rfl] at E
    have EE := Ho.mk E
    rw [show n + 1 - 1 = n from rfl] at F
    obtain ⟨F0, F1⟩ := F
    clear hne E e hn
    go_enter Tryd.func63, Tryd.ntmps63
    go_wp2_with fail
    (with_reducible refine (len_calls _ _ F0 F1).mono ?_); rintro e w' ⟨rfl, rfl⟩
    have hb : blen (nth l n).toNat ≤ 24 := blen_le.2 (by omega)
    generalize blen (nth l n).toNat = b at *
    go_wp2
    go_ret
    exact ⟨ret_int (by have := EE.out; omega), rfl⟩
end Go.Proofs.YtnmjnjhijcnbcaaDoor.N6
