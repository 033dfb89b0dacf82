/-
  Plain laws: naturals as rows of limbs.
-/
import Derived.Test.YtnmjnjhijcnbcaaDoorOw
set_option linter.unusedVariables false
namespace Go.Proofs.YtnmjnjhijcnbcaaDoor.Pl
open Go Go.RowKit Go.Proofs.YtnmjnjhijcnbcaaDoor.Ow

/-- What a row of limbs stands for. -/
def val : List Int → Int
  | [] => 0
  | x :: r => x + 16777216 * val r
def Lims (l : List Int) : Prop := ∀ x ∈ l, 0 ≤ x ∧ x < 16777216
/-- A natural's own row. -/
def IsN (l : List Int) : Prop := Lims l ∧ l.getLast? ≠ some 0
def digs (n : Nat) : List Int := if h : n = 0 then [] else ((n % 16777216 : Nat) : Int) :: digs (n / 16777216)
termination_by n
decreasing_by omega

theorem pow_cast (k : Nat) : ((16777216 ^ k : Nat) : Int) = (16777216 : Int) ^ k := Int.natCast_pow 16777216 k
theorem Lims.tail {x : Int} {l : List Int} (h : Lims (x :: l)) : Lims l := fun y hy => h y (List.mem_cons_of_mem _ hy)
theorem Lims.head {x : Int} {l : List Int} (h : Lims (x :: l)) : 0 ≤ x ∧ x < 16777216 := h x (List.mem_cons_self ..)
theorem Lims.nth {l : List Int} (h : Lims l) (i : Nat) : 0 ≤ nth l i ∧ nth l i < 16777216 := by
  by_cases hi : i < l.length
  · rw [nth_lt hi]; exact h _ (List.getElem_mem _)
  · rw [nth_ge (by omega)]; omega
theorem val_nonneg {l : List Int} (h : Lims l) : 0 ≤ val l := by
  induction l with
  | nil => simp [val]
  | cons x r ih => have := ih h.tail; have := h.head; simp only [val]; omega
theorem val_lt {l : List Int} (h : Lims l) : val l < 16777216 ^ l.length := by
  induction l with
  | nil => simp [val]
  | cons x r ih =>
    have h1 := ih h.tail; have h2 := h.head
    simp only [val, List.length_cons, Int.pow_succ]
    omega
theorem IsN.nil : IsN [] := ⟨fun x hx => by simp at hx, by simp⟩
theorem IsN.tail {x : Int} {l : List Int} (h : IsN (x :: l)) : IsN l := ⟨h.1.tail, fun e => h.2 (by
  cases l with
  | nil => simp at e
  | cons y r => simpa using e)⟩
theorem IsN.pos {l : List Int} (h : IsN l) (hl : l ≠ []) : 0 < val l := by
  induction l with
  | nil => exact absurd rfl hl
  | cons x r ih =>
    have hx := h.1.head
    have hr := val_nonneg h.1.tail
    simp only [val]
    cases r with
    | nil =>
      have : x ≠ 0 := fun e => h.2 (by simp [e])
      omega
    | cons y s => have := ih h.tail (by simp); omega
theorem digs_zero : digs 0 = [] := by unfold digs; simp
theorem digs_pos {n : Nat} (h : n ≠ 0) : digs n = ((n % 16777216 : Nat) : Int) :: digs (n / 16777216) := by rw [digs]; simp [h]
theorem digs_can (n : Nat) : IsN (digs n) := by
  induction n using Nat.strongRecOn with
  | _ n ih =>
    by_cases h : n = 0
    · subst h; rw [digs_zero]; exact IsN.nil
    · rw [digs_pos h]
      have ih' := ih (n / 16777216) (by omega)
      refine ⟨fun x hx => ?_, ?_⟩
      · rcases List.mem_cons.1 hx with rfl | hx
        · omega
        · exact ih'.1 x hx
      · by_cases h2 : n / 16777216 = 0
        · rw [h2, digs_zero]; simp; omega
        · intro e
          apply ih'.2
          rw [digs_pos h2] at e ⊢
          simpa using e
theorem digs_val (n : Nat) : val (digs n) = n := by
  induction n using Nat.strongRecOn with
  | _ n ih =>
    by_cases h : n = 0
    · subst h; rw [digs_zero]; rfl
    · rw [digs_pos h]; simp only [val]; rw [ih (n / 16777216) (by omega)]; omega
theorem digs_of {l : List Int} (h : IsN l) : digs (val l).toNat = l := by
  induction l with
  | nil => simp [val, digs_zero]
  | cons x r ih =>
    have hp := h.pos (by simp)
    have hx := h.1.head
    have hr := val_nonneg h.1.tail
    have e : (val (x :: r)).toNat ≠ 0 := by omega
    rw [digs_pos e]
    have ev : val (x :: r) = x + 16777216 * val r := rfl
    have e1 : ((val (x :: r)).toNat % 16777216 : Nat) = x.toNat := by omega
    have e2 : (val (x :: r)).toNat / 16777216 = (val r).toNat := by omega
    rw [e1, e2, ih h.tail]
    congr 1; omega
/-- A row with a natural's form that stands for n is n's own. -/
theorem digs_eq {l : List Int} {n : Nat} (h : IsN l) (hv : val l = n) : digs n = l := by
  have := digs_of h; rw [hv] at this; simpa using this
theorem digs_inj {m n : Nat} (h : digs m = digs n) : m = n := by
  have h1 := digs_val m; rw [h, digs_val] at h1; omega
theorem can_digs {l : List Int} (h : IsN l) : ∃ n, l = digs n := ⟨_, (digs_of h).symm⟩
theorem digs_nil {n : Nat} : digs n = [] ↔ n = 0 := ⟨fun h => digs_inj (h.trans digs_zero.symm), fun h => by rw [h, digs_zero]⟩
theorem digs_lt (n : Nat) : n < 16777216 ^ (digs n).length := by
  have := val_lt (digs_can n).1; rw [digs_val, ← pow_cast] at this; exact Int.ofNat_lt.1 this
theorem IsN.low {l : List Int} (h : IsN l) (hl : l ≠ []) : 16777216 ^ (l.length - 1) ≤ val l := by
  induction l with
  | nil => exact absurd rfl hl
  | cons x r ih =>
    have hx := h.1.head
    cases r with
    | nil =>
      have := h.pos (List.cons_ne_nil _ _)
      show (16777216 : Int) ^ 0 ≤ _
      rw [Int.pow_zero]; omega
    | cons y s =>
      have := ih h.tail (by simp)
      simp only [List.length_cons, Nat.add_sub_cancel] at this ⊢
      have e : val (x :: y :: s) = x + 16777216 * val (y :: s) := rfl
      rw [e, Int.pow_succ]; omega
theorem digs_len_le {n k : Nat} : (digs n).length ≤ k ↔ n < 16777216 ^ k := by
  constructor
  · intro h; exact Nat.lt_of_lt_of_le (digs_lt n) (Nat.pow_le_pow_right (by decide) h)
  · intro h
    by_cases h0 : digs n = []
    · simp [h0]
    · have h1 := (digs_can n).low h0
      rw [digs_val] at h1
      have h2 : 16777216 ^ ((digs n).length - 1) < 16777216 ^ k := by
        have : (16777216 ^ ((digs n).length - 1) : Nat) ≤ n := by rw [← pow_cast] at h1; exact Int.ofNat_le.1 h1
        exact Nat.lt_of_le_of_lt this h
      have h3 := (Nat.pow_lt_pow_iff_right (a := 16777216) (by decide)).1 h2
      omega

/-- How many bits. -/
def blen (n : Nat) : Nat := if n = 0 then 0 else Nat.log2 n + 1
theorem blen_zero : blen 0 = 0 := rfl
theorem blen_pos {n : Nat} (h : n ≠ 0) : blen n = Nat.log2 n + 1 := by unfold blen; rw [if_neg h]
theorem blen_lt (n : Nat) : n < 2 ^ blen n := by
  by_cases h : n = 0
  · subst h; decide
  · rw [blen_pos h]; exact Nat.lt_log2_self
theorem blen_low {n : Nat} (h : n ≠ 0) : 2 ^ (blen n - 1) ≤ n := by rw [blen_pos h]; exact Nat.log2_self_le h
theorem blen_le {n k : Nat} : blen n ≤ k ↔ n < 2 ^ k := by
  constructor
  · intro h; exact Nat.lt_of_lt_of_le (blen_lt n) (Nat.pow_le_pow_right (by decide) h)
  · intro h
    by_cases h0 : n = 0
    · subst h0; rw [blen_zero]; exact Nat.zero_le _
    · have h1 := Nat.lt_of_le_of_lt (blen_low h0) h
      have h2 := (Nat.pow_lt_pow_iff_right (a := 2) (by decide)).1 h1
      omega
theorem blen_eq {n k : Nat} (h1 : 2 ^ k ≤ n) (h2 : n < 2 ^ (k + 1)) : blen n = k + 1 := by
  have a := blen_le.2 h2
  have b : ¬ blen n ≤ k := fun h => by have := blen_le.1 h; omega
  omega
/-- A number shifted up has so many bits more; what comes in below changes nothing. -/
theorem blen_shift {n k r : Nat} (h : n ≠ 0) (hr : r < 2 ^ k) : blen (n * 2 ^ k + r) = blen n + k := by
  have h1 := blen_low h
  have h2 := blen_lt n
  have h3 : 1 ≤ blen n := by rw [blen_pos h]; omega
  obtain ⟨b, hb⟩ : ∃ b, blen n = b + 1 := ⟨blen n - 1, by omega⟩
  rw [hb] at h1 h2 ⊢
  rw [Nat.add_sub_cancel] at h1
  rw [show b + 1 + k = (b + k) + 1 from by omega]
  refine blen_eq ?_ ?_
  · rw [Nat.pow_add]; have := Nat.mul_le_mul_right (2 ^ k) h1; omega
  · have h4 : (n + 1) * 2 ^ k ≤ 2 ^ (b + 1) * 2 ^ k := Nat.mul_le_mul_right _ h2
    rw [← Nat.pow_add, Nat.add_mul, Nat.one_mul] at h4
    rw [show b + k + 1 = b + 1 + k from by omega]; omega

/-! ### sums along a row -/
def sumf : Nat → (Nat → Int) → Int
  | 0, _ => 0
  | n + 1, f => f 0 + 16777216 * sumf n (fun i => f (i + 1))
theorem sumf_add (n : Nat) : ∀ f g : Nat → Int, sumf n (fun i => f i + g i) = sumf n f + sumf n g := by
  induction n with
  | zero => intro f g; rfl
  | succ n ih => intro f g; simp only [sumf]; rw [ih]; omega
theorem sumf_sub (n : Nat) : ∀ f g : Nat → Int, sumf n (fun i => f i - g i) = sumf n f - sumf n g := by
  induction n with
  | zero => intro f g; rfl
  | succ n ih => intro f g; simp only [sumf]; rw [ih]; omega
theorem sumf_mul (n : Nat) : ∀ (f : Nat → Int) (c : Int), sumf n (fun i => f i * c) = sumf n f * c := by
  induction n with
  | zero => intro f c; simp [sumf]
  | succ n ih => intro f c; simp only [sumf]; rw [ih, Int.add_mul, Int.mul_assoc]
theorem nth_cons (x : Int) (r : List Int) (i : Nat) : nth (x :: r) (i + 1) = nth r i := by simp [nth]
theorem sumf_zero (n : Nat) : sumf n (fun _ => 0) = 0 := by
  induction n with
  | zero => rfl
  | succ n ih => simp only [sumf]; rw [ih]; rfl
theorem nth_zero (x : Int) (r : List Int) : nth (x :: r) 0 = x := rfl
theorem nth_nil (i : Nat) : nth [] i = 0 := rfl
theorem sumf_nth : ∀ (l : List Int) (n : Nat), l.length ≤ n → sumf n (nth l) = val l := by
  intro l
  induction l with
  | nil => intro n _; exact (congrArg (sumf n) (funext fun i => nth_nil i)).trans (sumf_zero n)
  | cons x r ih =>
    intro n hn
    obtain ⟨n, rfl⟩ : ∃ k, n = k + 1 := ⟨n - 1, by simp at hn; omega⟩
    simp only [sumf, val]
    rw [show (fun i => nth (x :: r) (i + 1)) = nth r from funext fun i => nth_cons x r i, ih n (by simpa using hn), nth_zero]
/-- The limbs of a row of sums, with what goes over. -/
def limbs : Nat → Int → (Nat → Int) → List Int
  | 0, _, _ => []
  | n + 1, c, f => ((f 0 + c) % 16777216) :: limbs n ((f 0 + c) / 16777216) (fun i => f (i + 1))
theorem limbs_len (n : Nat) : ∀ c f, (limbs n c f).length = n := by
  induction n with
  | zero => intro c f; rfl
  | succ n ih => intro c f; simp [limbs, ih]
theorem limbs_lims (n : Nat) : ∀ c f, Lims (limbs n c f) := by
  induction n with
  | zero => intro c f x hx; simp [limbs] at hx
  | succ n ih =>
    intro c f x hx
    rcases List.mem_cons.1 hx with rfl | hx
    · omega
    · exact ih _ _ x hx
theorem limbs_val (n : Nat) : ∀ c f, ∃ c', val (limbs n c f) + 16777216 ^ n * c' = c + sumf n f := by
  induction n with
  | zero => intro c f; exact ⟨c, by simp [limbs, val, sumf]⟩
  | succ n ih =>
    intro c f
    obtain ⟨c', h⟩ := ih ((f 0 + c) / 16777216) (fun i => f (i + 1))
    refine ⟨c', ?_⟩
    simp only [limbs, val, sumf, Int.pow_succ]
    have e : (16777216 : Int) ^ n * 16777216 * c' = 16777216 * (16777216 ^ n * c') := by rw [Int.mul_comm ((16777216 : Int) ^ n) 16777216, Int.mul_assoc]
    rw [e]
    generalize (16777216 : Int) ^ n * c' = z at h ⊢
    omega
theorem fits {p v c t : Int} (h0 : 0 ≤ v) (h1 : v < p) (e : v + p * c = t) (h2 : 0 ≤ t) (h3 : t < p) : v = t := by
  have hc : c = 0 := by
    rcases Int.lt_trichotomy c 0 with h | h | h
    · have : p * c ≤ p * (-1) := Int.mul_le_mul_of_nonneg_left (by omega) (by omega)
      omega
    · exact h
    · have : p * 1 ≤ p * c := Int.mul_le_mul_of_nonneg_left (by omega) (by omega)
      omega
  subst hc; omega
theorem limbs_fit (n : Nat) (c : Int) (f : Nat → Int) (h0 : 0 ≤ c + sumf n f) (h1 : c + sumf n f < 16777216 ^ n) : val (limbs n c f) = c + sumf n f := by
  obtain ⟨c', h⟩ := limbs_val n c f
  have h2 := val_lt (limbs_lims n c f)
  rw [limbs_len] at h2
  exact fits (val_nonneg (limbs_lims n c f)) h2 h h0 h1

/-! ### noughts at the end -/
def trimN (l : List Int) : Nat → Nat
  | 0 => 0
  | n + 1 => if nth l n = 0 then trimN l n else n + 1
theorem trimN_le (l : List Int) (n : Nat) : trimN l n ≤ n := by
  induction n with
  | zero => simp [trimN]
  | succ n ih => unfold trimN; split <;> omega
def trimL (l : List Int) : List Int := l.take (trimN l l.length)
theorem val_append (a b : List Int) : val (a ++ b) = val a + 16777216 ^ a.length * val b := by
  induction a with
  | nil => simp [val]
  | cons x r ih =>
    simp only [List.cons_append, val, ih, List.length_cons, Int.pow_succ]
    rw [Int.mul_add, Int.mul_comm ((16777216 : Int) ^ r.length) 16777216, Int.mul_assoc]; omega
theorem val_take (l : List Int) (n : Nat) (hn : n ≤ l.length) : val (l.take (trimN l n)) = val (l.take n) := by
  induction n with
  | zero => rfl
  | succ n ih =>
    simp only [trimN]
    split
    · rename_i h
      rw [ih (by omega), List.take_succ_eq_append_getElem (by omega), val_append]
      rw [nth_lt (by omega)] at h
      simp [h, val]
    · rfl
theorem val_trim (l : List Int) : val (trimL l) = val l := by
  have := val_take l l.length (Nat.le_refl _); rw [List.take_length] at this; exact this
theorem trimN_last (l : List Int) (n : Nat) (hn : n ≤ l.length) : (l.take (trimN l n)).getLast? ≠ some 0 := by
  induction n with
  | zero => simp [trimN]
  | succ n ih =>
    simp only [trimN]
    split
    · exact ih (by omega)
    · rename_i h
      rw [nth_lt (by omega)] at h
      rw [List.take_succ_eq_append_getElem (by omega), List.getLast?_append]
      simpa using h
theorem Lims.take {l : List Int} (h : Lims l) (n : Nat) : Lims (l.take n) := fun x hx => h x (List.mem_of_mem_take hx)
theorem trim_can {l : List Int} (h : Lims l) : IsN (trimL l) := ⟨h.take _, trimN_last l _ (Nat.le_refl _)⟩
theorem trim_digs {l : List Int} {n : Nat} (h : Lims l) (hv : val l = n) : trimL l = digs n := (digs_eq (trim_can h) (by rw [val_trim]; exact hv)).symm

theorem pow_le {a b : Nat} (h : a ≤ b) : (16777216 : Int) ^ a ≤ 16777216 ^ b := by
  have : (16777216 ^ a : Nat) ≤ 16777216 ^ b := Nat.pow_le_pow_right (by decide) h
  rw [← pow_cast, ← pow_cast]; exact Int.ofNat_le.2 this
theorem digs_val_lt (x : Nat) (n : Nat) (h : (digs x).length ≤ n) : (x : Int) < 16777216 ^ n := by
  have := digs_len_le.1 h; rw [← pow_cast]; exact Int.ofNat_lt.2 this
theorem add_digs (x y n : Nat) (hx : (digs x).length ≤ n) (hy : (digs y).length ≤ n) :
    trimL (limbs (n + 1) 0 fun i => nth (digs x) i + nth (digs y) i) = digs (x + y) := by
  have e : sumf (n + 1) (fun i => nth (digs x) i + nth (digs y) i) = ((x + y : Nat) : Int) := by
    rw [sumf_add, sumf_nth _ _ (by omega), sumf_nth _ _ (by omega), digs_val, digs_val]; exact (Int.natCast_add x y).symm
  have h1 := digs_val_lt x n hx
  have h2 := digs_val_lt y n hy
  have h3 : (0 : Int) + sumf (n + 1) (fun i => nth (digs x) i + nth (digs y) i) < 16777216 ^ (n + 1) := by
    rw [e, Int.pow_succ]; omega
  refine trim_digs (limbs_lims _ _ _) ?_
  rw [limbs_fit _ _ _ (by rw [e]; omega) h3, e]; exact Int.zero_add _
theorem sub_digs (x y : Nat) (h : y ≤ x) : trimL (limbs (digs x).length 0 fun i => nth (digs x) i - nth (digs y) i) = digs (x - y) := by
  have h1 := digs_val_lt x _ (Nat.le_refl _)
  have hy : (digs y).length ≤ (digs x).length := digs_len_le.2 (Nat.lt_of_le_of_lt h (digs_lt x))
  have e : sumf (digs x).length (fun i => nth (digs x) i - nth (digs y) i) = ((x - y : Nat) : Int) := by
    rw [sumf_sub, sumf_nth _ _ (Nat.le_refl _), sumf_nth _ _ hy, digs_val, digs_val]; omega
  refine trim_digs (limbs_lims _ _ _) ?_
  rw [limbs_fit _ _ _ (by rw [e]; omega) (by rw [e]; omega), e]; exact Int.zero_add _

/-! ### which is less -/
def cmpI (x y : Int) : Int := if x < y then -1 else if y < x then 1 else 0
theorem cmpI_lt {x y : Int} (h : x < y) : cmpI x y = -1 := by unfold cmpI; rw [if_pos h]
theorem cmpI_gt {x y : Int} (h : y < x) : cmpI x y = 1 := by unfold cmpI; rw [if_neg (by omega), if_pos h]
theorem cmpI_eq {x y : Int} (h : x = y) : cmpI x y = 0 := by unfold cmpI; rw [if_neg (by omega), if_neg (by omega)]
/-- Held against one another from the top. -/
def cmpTop (a b : List Int) : Nat → Int
  | 0 => 0
  | n + 1 => if nth a n = nth b n then cmpTop a b n else cmpI (nth a n) (nth b n)
theorem cmpTop_val {a b : List Int} (ha : Lims a) (hb : Lims b) : ∀ n, n ≤ a.length → n ≤ b.length → cmpTop a b n = cmpI (val (a.take n)) (val (b.take n)) := by
  intro n
  induction n with
  | zero => intro _ _; simp [cmpTop, cmpI, val]
  | succ n ih =>
    intro h1 h2
    have ih' := ih (by omega) (by omega)
    have la := val_lt (ha.take n); have lb := val_lt (hb.take n)
    have na := val_nonneg (ha.take n); have nb := val_nonneg (hb.take n)
    rw [List.length_take, Nat.min_eq_left (by omega)] at la lb
    have ea : val (a.take (n + 1)) = val (a.take n) + 16777216 ^ n * nth a n := by
      rw [List.take_succ_eq_append_getElem (by omega), val_append, List.length_take, Nat.min_eq_left (by omega), nth_lt (by omega)]; simp [val]
    have eb : val (b.take (n + 1)) = val (b.take n) + 16777216 ^ n * nth b n := by
      rw [List.take_succ_eq_append_getElem (by omega), val_append, List.length_take, Nat.min_eq_left (by omega), nth_lt (by omega)]; simp [val]
    rw [ea, eb]
    generalize (16777216 : Int) ^ n = p at *
    generalize val (a.take n) = u at *
    generalize val (b.take n) = v at *
    simp only [cmpTop]
    generalize nth a n = s
    generalize nth b n = t
    by_cases h : s = t
    · rw [if_pos h, ih', h]
      rcases Int.lt_trichotomy u v with h1 | h1 | h1
      · rw [cmpI_lt h1, cmpI_lt (by omega)]
      · rw [cmpI_eq h1, cmpI_eq (by omega)]
      · rw [cmpI_gt h1, cmpI_gt (by omega)]
    · rw [if_neg h]
      by_cases h1 : s < t
      · have : p * (s + 1) ≤ p * t := Int.mul_le_mul_of_nonneg_left (by omega) (by omega)
        rw [Int.mul_add] at this
        rw [cmpI_lt h1, cmpI_lt (by omega)]
      · have h2 : t < s := by omega
        have : p * (t + 1) ≤ p * s := Int.mul_le_mul_of_nonneg_left (by omega) (by omega)
        rw [Int.mul_add] at this
        rw [cmpI_gt h2, cmpI_gt (by omega)]
theorem cmp_digs (x y : Nat) (h : (digs x).length = (digs y).length) : cmpTop (digs x) (digs y) (digs x).length = cmpI x y := by
  rw [cmpTop_val (digs_can x).1 (digs_can y).1 _ (Nat.le_refl _) (by omega), List.take_length, h, List.take_length, digs_val, digs_val]
theorem digs_len_lt {x y : Nat} (h : (digs x).length < (digs y).length) : x < y := by
  rcases Nat.lt_or_ge x y with h1 | h1
  · exact h1
  · have := digs_len_le.2 (Nat.lt_of_le_of_lt h1 (digs_lt x)); omega
theorem cmp_len (x y : Nat) (h : (digs x).length ≠ (digs y).length) : cmpI (digs x).length (digs y).length = cmpI x y := by
  rcases Nat.lt_or_gt_of_ne h with h1 | h1
  · have := digs_len_lt h1
    rw [cmpI_lt (by omega), cmpI_lt (by omega)]
  · have := digs_len_lt h1
    rw [cmpI_gt (by omega), cmpI_gt (by omega)]

/-! ### a limb that is made anew -/
theorem val_set (l : List Int) : ∀ (j : Nat) (v : Int), j < l.length → val (l.set j v) = val l + 16777216 ^ j * (v - nth l j) := by
  induction l with
  | nil => intro j v h; simp at h
  | cons x r ih =>
    intro j v h
    cases j with
    | zero => simp only [List.set_cons_zero, val, Int.pow_zero, nth_zero]; omega
    | succ j =>
      simp only [List.set_cons_succ, val, nth_cons, Int.pow_succ]
      rw [ih j v (by simpa using h), Int.mul_add, Int.mul_comm ((16777216 : Int) ^ j) 16777216, Int.mul_assoc]; omega
theorem nth_set_eq {l : List Int} {j : Nat} {v : Int} (h : j < l.length) : nth (l.set j v) j = v := by simp [nth, h]
theorem nth_set_ne {l : List Int} {j k : Nat} {v : Int} (h : j ≠ k) : nth (l.set j v) k = nth l k := by simp [nth, List.getElem?_set_ne h]
theorem Lims.set {l : List Int} (h : Lims l) (j : Nat) {v : Int} (hv : 0 ≤ v ∧ v < 16777216) : Lims (l.set j v) := fun x hx => by
  rcases List.mem_or_eq_of_mem_set hx with h1 | h1
  · exact h x h1
  · rw [h1]; exact hv
theorem lims_rep (n : Nat) : Lims (List.replicate n 0) := fun x hx => by rw [List.eq_of_mem_replicate hx]; omega
theorem val_rep (n : Nat) : val (List.replicate n 0) = 0 := by
  induction n with
  | zero => rfl
  | succ n ih => rw [List.replicate_succ]; simp only [val]; rw [ih]; rfl
theorem nth_rep (n j : Nat) : nth (List.replicate n 0) j = 0 := by
  by_cases h : j < n
  · rw [nth_lt (by simpa using h)]; simp
  · exact nth_ge (by simp; omega)
theorem val_succ {l : List Int} {n : Nat} (h : n < l.length) : val (l.take (n + 1)) = val (l.take n) + 16777216 ^ n * nth l n := by
  rw [List.take_succ_eq_append_getElem h, val_append, List.length_take, Nat.min_eq_left (by omega), nth_lt h]; simp [val]
/-- One step of a row's product: what is put, and what goes over. -/
theorem mul_step {V P p q s c x y b bk : Int} (h : V + p * c = P + q * x * b) (hp : p = q * bk) :
    V + p * ((s + x * y + c) % 16777216 - s) + p * 16777216 * ((s + x * y + c) / 16777216) = P + q * x * (b + bk * y) := by
  have e2 : q * x * (bk * y) = p * (x * y) := by rw [hp]; ac_rfl
  rw [Int.mul_add, e2]
  have e : 16777216 * ((s + x * y + c) / 16777216) + (s + x * y + c) % 16777216 = s + x * y + c := Int.mul_ediv_add_emod _ _
  generalize (s + x * y + c) / 16777216 = d at e ⊢
  generalize (s + x * y + c) % 16777216 = m at e ⊢
  generalize x * y = z at e ⊢
  have : m = s + z + c - 16777216 * d := by omega
  subst this
  rw [Int.mul_sub, Int.mul_sub, Int.mul_add, Int.mul_add, Int.mul_assoc p 16777216 d]
  omega
theorem mul_le_limb {x y : Int} (h0 : 0 ≤ x) (h1 : x < 16777216) (h2 : 0 ≤ y) (h3 : y < 16777216) : 0 ≤ x * y ∧ x * y ≤ 281474943156225 := by
  refine ⟨Int.mul_nonneg h0 h2, ?_⟩
  have a : x * y ≤ 16777215 * y := Int.mul_le_mul_of_nonneg_right (by omega) h2
  omega

/-! ### shifts up -/
theorem limbs_step (f : Nat → Int) (i m : Nat) (cr : Int) (done : List Int) (h : i < m) :
    (done ++ [(f i + cr) % 16777216]) ++ limbs (m - (i + 1)) ((f i + cr) / 16777216) (fun j => f (i + 1 + j)) = done ++ limbs (m - i) cr (fun j => f (i + j)) := by
  obtain ⟨d, hd⟩ : ∃ d, m - i = d + 1 := ⟨m - i - 1, by omega⟩
  rw [hd, show m - (i + 1) = d from by omega, List.append_assoc]
  simp only [limbs, List.singleton_append, Nat.add_zero]
  congr 3
  funext j
  rw [show i + 1 + j = i + (j + 1) from by omega]
theorem lims_append {a b : List Int} (ha : Lims a) (hb : Lims b) : Lims (a ++ b) := fun x hx => by
  rcases List.mem_append.1 hx with h | h
  · exact ha x h
  · exact hb x h
theorem pow_split (k : Nat) : (2 : Nat) ^ k = 16777216 ^ (k / 24) * 2 ^ (k % 24) := by
  rw [show (16777216 : Nat) = 2 ^ 24 from rfl, ← Nat.pow_mul, ← Nat.pow_add]; congr 1; omega
theorem p2_lt {b : Nat} (h : b < 24) : (2 : Nat) ^ b ≤ 8388608 := by
  have : (2 : Nat) ^ b ≤ 2 ^ 23 := Nat.pow_le_pow_right (by decide) (by omega)
  omega
theorem shl_digs (x k : Nat) : trimL (List.replicate (k / 24) 0 ++ limbs ((digs x).length + 1) 0 (fun j => nth (digs x) j * ((2 ^ (k % 24) : Nat) : Int))) = digs (x * 2 ^ k) := by
  have hp := p2_lt (b := k % 24) (by omega)
  have h1 := digs_val_lt x _ (Nat.le_refl _)
  have e : sumf ((digs x).length + 1) (fun j => nth (digs x) j * ((2 ^ (k % 24) : Nat) : Int)) = ((x * 2 ^ (k % 24) : Nat) : Int) := by
    rw [sumf_mul, sumf_nth _ _ (by omega), digs_val]; exact (Int.natCast_mul _ _).symm
  have h2 : ((x * 2 ^ (k % 24) : Nat) : Int) < 16777216 ^ ((digs x).length + 1) := by
    rw [Int.pow_succ, Int.natCast_mul]
    have a : (x : Int) * ((2 ^ (k % 24) : Nat) : Int) ≤ (x : Int) * 8388608 := Int.mul_le_mul_of_nonneg_left (Int.ofNat_le.2 hp) (by omega)
    omega
  refine trim_digs (lims_append (lims_rep _) (limbs_lims _ _ _)) ?_
  rw [val_append, val_rep, limbs_fit _ _ _ (by rw [e]; omega) (by rw [e]; omega), e, List.length_replicate, Int.zero_add, Int.zero_add, ← pow_cast, ← Int.natCast_mul]
  congr 1
  rw [pow_split k]; ac_rfl
theorem set_mid (a d r : List Int) (i : Nat) (v : Int) (h : i < r.length) (hd : d.length = i) : (a ++ (d ++ r.drop i)).set (a.length + i) v = a ++ ((d ++ [v]) ++ r.drop (i + 1)) := by
  rw [List.set_append_right _ _ (by omega), Nat.add_sub_cancel_left, List.set_append_right _ _ (by omega), hd, Nat.sub_self, List.drop_eq_getElem_cons h, List.set_cons_zero, List.append_assoc]
  rfl
theorem nth_mid (a d r : List Int) (i : Nat) (h : i < r.length) (hd : d.length = i) : nth (a ++ (d ++ r.drop i)) (a.length + i) = nth r i := by
  rw [nth_lt (by simp; omega), nth_lt h, List.getElem_append_right (by omega)]
  simp only [Nat.add_sub_cancel_left]
  rw [List.getElem_append_right (by omega)]
  simp [hd]
theorem nth_snoc (l : List Int) (i : Nat) : nth (l ++ [0]) i = nth l i := by
  by_cases h : i < l.length
  · rw [nth_lt (by simp; omega), nth_lt h, List.getElem_append_left h]
  · rw [nth_ge (l := l) (by omega)]
    by_cases h2 : i = l.length
    · subst h2; simp [nth]
    · exact nth_ge (by simp; omega)
theorem wrap_id {x : Int} (h0 : -9223372036854775808 ≤ x) (h1 : x ≤ 9223372036854775807) : wrap64 x = x := by unfold wrap64; omega
theorem shl_wrap {x : Int} {b : Nat} (h0 : 0 ≤ x) (h1 : x < 16777216) (hb : b < 24) : wrap64 (x * 2 ^ b) = x * ((2 ^ b : Nat) : Int) ∧ 0 ≤ x * ((2 ^ b : Nat) : Int) ∧ x * ((2 ^ b : Nat) : Int) ≤ 140737479966720 := by
  have hp := p2_lt hb
  have e : (2 : Int) ^ b = ((2 ^ b : Nat) : Int) := (Int.natCast_pow 2 b).symm
  rw [e]
  generalize (2 ^ b : Nat) = p at hp
  have a : x * (p : Int) ≤ x * 8388608 := Int.mul_le_mul_of_nonneg_left (by omega) h0
  have c : 0 ≤ x * (p : Int) := Int.mul_nonneg h0 (by omega)
  exact ⟨wrap_id (by omega) (by omega), c, by omega⟩

/-! ### shifts down -/
def shrL (p q : Int) : List Int → List Int
  | [] => []
  | x :: r => (x / p + nth r 0 * q % 16777216) :: shrL p q r
theorem shrL_len (p q : Int) (l : List Int) : (shrL p q l).length = l.length := by
  induction l with
  | nil => rfl
  | cons x r ih => simp [shrL, ih]
theorem shrL_nth (p q : Int) (l : List Int) : ∀ i, i < l.length → nth (shrL p q l) i = nth l i / p + nth l (i + 1) * q % 16777216 := by
  induction l with
  | nil => intro i h; simp at h
  | cons x r ih =>
    intro i h
    cases i with
    | zero => simp only [shrL, nth_zero, nth_cons]
    | succ i => simp only [shrL, nth_cons]; exact ih i (by simpa using h)
theorem div_split {p q y v : Int} (hp : 0 < p) (hpq : p * q = 16777216) : q * (y + 16777216 * v) = y * q % 16777216 + 16777216 * ((y + 16777216 * v) / p) := by
  have e1 : (y + 16777216 * v) / p = y / p + q * v := by
    rw [← hpq, Int.mul_assoc, Int.add_mul_ediv_left _ _ (by omega)]
  have e2 : y * q / 16777216 = y / p := by
    have hq : 0 < q := by
      rcases Int.lt_trichotomy q 0 with h | h | h
      · have : p * q < 0 := Int.mul_neg_of_pos_of_neg hp h
        omega
      · subst h; simp at hpq
      · exact h
    rw [← hpq, Int.mul_comm p q, Int.mul_comm y q]
    exact Int.mul_ediv_mul_of_pos y p hq
  have e3 := Int.mul_ediv_add_emod (y * q) 16777216
  rw [e2] at e3
  rw [e1, Int.mul_add, Int.mul_add, Int.mul_comm q y, ← Int.mul_assoc q, Int.mul_comm q 16777216, Int.mul_assoc]
  omega
theorem shrL_val {p q : Int} (hp : 0 < p) (hpq : p * q = 16777216) (l : List Int) : val (shrL p q l) = val l / p := by
  induction l with
  | nil => simp [shrL, val]
  | cons x r ih =>
    simp only [shrL, val]
    rw [ih]
    have e : (x + 16777216 * val r) / p = x / p + q * val r := by
      rw [← hpq, Int.mul_assoc, Int.add_mul_ediv_left _ _ (by omega)]
    rw [e]
    cases r with
    | nil => simp [val, nth]
    | cons y s =>
      simp only [val, nth_zero]
      rw [div_split hp hpq]; omega
theorem limb_or {x y p q : Int} (h0 : 0 ≤ x) (h1 : x < 16777216) (hp : 0 < p) (hpq : p * q = 16777216) (hy : 0 ≤ y) : 0 ≤ x / p + y * q % 16777216 ∧ x / p + y * q % 16777216 < 16777216 ∧ x / p < q ∧ 0 ≤ x / p := by
  have hq : 0 < q := by
    rcases Int.lt_trichotomy q 0 with h | h | h
    · have : p * q < 0 := Int.mul_neg_of_pos_of_neg hp h
      omega
    · subst h; simp at hpq
    · exact h
  have a : x / p < q := Int.ediv_lt_of_lt_mul hp (by rw [Int.mul_comm, hpq]; exact h1)
  have b : 0 ≤ x / p := Int.ediv_nonneg h0 (by omega)
  have c : y * q % 16777216 = q * (y % p) := by rw [← hpq, Int.mul_comm p q, Int.mul_comm y q, Int.mul_emod_mul_of_pos _ _ hq]
  have d : y % p ≤ p - 1 := by have := Int.emod_lt_of_pos y hp; omega
  have e : q * (y % p) ≤ q * (p - 1) := Int.mul_le_mul_of_nonneg_left d (by omega)
  have f : 0 ≤ q * (y % p) := Int.mul_nonneg (by omega) (Int.emod_nonneg _ (by omega))
  rw [Int.mul_sub, Int.mul_comm q p, hpq] at e
  rw [c]; omega
theorem shrL_lims {p q : Int} (hp : 0 < p) (hpq : p * q = 16777216) {l : List Int} (h : Lims l) : Lims (shrL p q l) := by
  induction l with
  | nil => intro x hx; simp [shrL] at hx
  | cons x r ih =>
    intro z hz
    rcases List.mem_cons.1 hz with rfl | hz
    · have := limb_or h.head.1 h.head.2 hp hpq (h.tail.nth 0).1
      omega
    · exact ih h.tail z hz
theorem Lims.drop {l : List Int} (h : Lims l) (n : Nat) : Lims (l.drop n) := fun x hx => h x (List.mem_of_mem_drop hx)
theorem val_drop (l : List Int) (n : Nat) (h : Lims l) : val (l.drop n) = val l / 16777216 ^ n := by
  by_cases hn : n ≤ l.length
  · have e : val l = val (l.take n) + 16777216 ^ n * val (l.drop n) := by
      conv => lhs; rw [← List.take_append_drop n l]
      rw [val_append, List.length_take, Nat.min_eq_left hn]
    have h1 := val_nonneg (h.take n)
    have h2 := val_lt (h.take n)
    rw [List.length_take, Nat.min_eq_left hn] at h2
    have hp : (0 : Int) < 16777216 ^ n := Int.pow_pos (by decide)
    rw [e, Int.add_mul_ediv_left _ _ (by omega), Int.ediv_eq_zero_of_lt h1 h2, Int.zero_add]
  · rw [List.drop_eq_nil_of_le (by omega)]
    have h1 := val_nonneg h
    have h2 := val_lt h
    have h3 := pow_le (a := l.length) (b := n) (by omega)
    rw [Int.ediv_eq_zero_of_lt h1 (by omega)]; rfl
theorem shr_digs (x k : Nat) : trimL (shrL ((2 ^ (k % 24) : Nat) : Int) ((2 ^ (24 - k % 24) : Nat) : Int) ((digs x).drop (k / 24))) = digs (x / 2 ^ k) := by
  have hp : (0 : Int) < ((2 ^ (k % 24) : Nat) : Int) := by have := Nat.two_pow_pos (k % 24); omega
  have hpq : ((2 ^ (k % 24) : Nat) : Int) * ((2 ^ (24 - k % 24) : Nat) : Int) = 16777216 := by
    rw [← Int.natCast_mul, ← Nat.pow_add, show k % 24 + (24 - k % 24) = 24 from by omega]; rfl
  refine trim_digs (shrL_lims hp hpq ((digs_can x).1.drop _)) ?_
  rw [shrL_val hp hpq, val_drop _ _ (digs_can x).1, digs_val, ← pow_cast, pow_split k, ← Nat.div_div_eq_div_mul, Int.natCast_ediv, Int.natCast_ediv]
theorem nth_td (S u : List Int) (i : Nat) (hS : S.length = u.length) (h : i < u.length) : nth (S.take i ++ u.drop i) i = nth u i := by
  rw [nth_lt (by simp; omega), nth_lt h, List.getElem_append_right (by simp; omega)]
  simp [Nat.min_eq_left (show i ≤ S.length by omega)]
theorem set_td (S u : List Int) (i : Nat) (hS : S.length = u.length) (h : i < u.length) : (S.take i ++ u.drop i).set i (nth S i) = S.take (i + 1) ++ u.drop (i + 1) := by
  rw [List.set_append_right _ _ (by simp; omega), List.length_take, Nat.min_eq_left (by omega), Nat.sub_self, List.drop_eq_getElem_cons h, List.set_cons_zero, List.take_succ_eq_append_getElem (by omega), List.append_assoc, nth_lt (by omega)]
  rfl
theorem or_low {u v : Int} (k : Nat) (hk : k ≤ 62) (h0 : 0 ≤ u) (h1 : u < 2 ^ k) (h2 : 0 ≤ v) (h3 : v % 2 ^ k = 0) (h4 : v < 2 ^ 62) : bits .or .i64 u v = u + v := by
  have hc : bits .or .i64 u v = bits .or .i64 v u := by simp only [bits, BitVec.or_comm]
  have hp : (2 : Int) ^ k ≤ 2 ^ 62 := by
    have : (2 ^ k : Nat) ≤ 2 ^ 62 := Nat.pow_le_pow_right (by decide) hk
    have e1 : ((2 ^ k : Nat) : Int) = (2 : Int) ^ k := Int.natCast_pow 2 k
    rw [← e1]; omega
  rw [hc, bits_join .i64 62 (by decide) (fun n a b => by rw [IntKind.wrap_i64]; omega) k v u h2 h3 h4 h0 h1 (by omega)]
  omega
theorem shr_or {a b : Int} {k : Nat} (hk : k < 24) (a0 : 0 ≤ a) (a1 : a < 16777216) (b0 : 0 ≤ b) (b1 : b < 16777216) :
    bits .or .i64 (a / 2 ^ k) (bits .and .i64 (wrap64 (b * 2 ^ (24 - k))) 16777215) = a / ((2 ^ k : Nat) : Int) + b * ((2 ^ (24 - k) : Nat) : Int) % 16777216 := by
  have e1 : (2 : Int) ^ k = ((2 ^ k : Nat) : Int) := (Int.natCast_pow 2 k).symm
  have e2 : (2 : Int) ^ (24 - k) = ((2 ^ (24 - k) : Nat) : Int) := (Int.natCast_pow 2 (24 - k)).symm
  have hp : (0 : Int) < ((2 ^ k : Nat) : Int) := by have := Nat.two_pow_pos k; omega
  have hpq : ((2 ^ k : Nat) : Int) * ((2 ^ (24 - k) : Nat) : Int) = 16777216 := by
    rw [← Int.natCast_mul, ← Nat.pow_add, show k + (24 - k) = 24 from by omega]; rfl
  have hq : ((2 ^ (24 - k) : Nat) : Int) ≤ 16777216 := by
    have : (2 : Nat) ^ (24 - k) ≤ 2 ^ 24 := Nat.pow_le_pow_right (by decide) (by omega)
    omega
  have hl := limb_or a0 a1 hp hpq b0
  rw [e1, e2, i64_mask24]
  have hb : b * ((2 ^ (24 - k) : Nat) : Int) ≤ b * 16777216 := Int.mul_le_mul_of_nonneg_left hq b0
  have hb0 : 0 ≤ b * ((2 ^ (24 - k) : Nat) : Int) := Int.mul_nonneg b0 (by omega)
  rw [wrap_id (by omega) (by omega)]
  refine or_low (24 - k) (by omega) hl.2.2.2 (by rw [e2]; exact hl.2.2.1) (by omega) ?_ (by omega)
  rw [e2, ← hpq, Int.mul_comm (((2 ^ k : Nat) : Int)), Int.mul_comm b, Int.mul_emod_mul_of_pos _ _ (by omega)]
  exact Int.mul_emod_right _ _

/-! ### the other way round -/
theorem nth_ext {a b : List Int} (h : a.length = b.length) (e : ∀ t, t < a.length → nth a t = nth b t) : a = b := by
  apply List.ext_getElem h
  intro i h1 h2
  have := e i h1
  rwa [nth_lt h1, nth_lt h2] at this
theorem nth_rev {l : List Int} {t : Nat} (h : t < l.length) : nth l.reverse t = nth l (l.length - 1 - t) := by
  rw [nth_lt (by simpa using h), nth_lt (by omega), List.getElem_reverse]
/-- So much has been turned round. -/
def Turned (l cur : List Int) (i : Nat) : Prop := cur.length = l.length ∧ ∀ t, t < l.length → nth cur t = if t < i ∨ l.length ≤ t + i then nth l (l.length - 1 - t) else nth l t
theorem turned_zero (l : List Int) : Turned l l 0 := ⟨rfl, fun t h => by rw [if_neg (by omega)]⟩
theorem turned_step {l cur : List Int} {i : Nat} (h : Turned l cur i) (hi : i + i + 1 < l.length) : Turned l ((cur.set i (nth cur (l.length - 1 - i))).set (l.length - 1 - i) (nth cur i)) (i + 1) := by
  obtain ⟨h1, h2⟩ := h
  refine ⟨by simp [h1], fun t ht => ?_⟩
  have a := h2 i (by omega)
  have b := h2 (l.length - 1 - i) (by omega)
  rw [if_neg (by omega)] at a b
  by_cases e1 : t = l.length - 1 - i
  · subst e1
    rw [nth_set_eq (by simp [h1]; omega), a, if_pos (by omega)]
    congr 1; omega
  · rw [nth_set_ne (fun e => e1 e.symm)]
    by_cases e2 : t = i
    · subst e2
      rw [nth_set_eq (by omega), b, if_pos (by omega)]
    · rw [nth_set_ne (fun e => e2 e.symm), h2 t ht]
      by_cases e3 : t < i ∨ l.length ≤ t + i
      · rw [if_pos e3, if_pos (by omega)]
      · rw [if_neg e3, if_neg (by omega)]
theorem turned_done {l cur : List Int} {i : Nat} (h : Turned l cur i) (hi : l.length ≤ i + i + 1) : cur = l.reverse := by
  obtain ⟨h1, h2⟩ := h
  refine nth_ext (by simp [h1]) (fun t ht => ?_)
  rw [h1] at ht
  rw [h2 t ht, nth_rev ht]
  by_cases e : t < i ∨ l.length ≤ t + i
  · rw [if_pos e]
  · rw [if_neg e]; congr 1; omega

/-! ### roots -/
theorem root_ex (x : Nat) : ∃ r, r * r ≤ x ∧ x < (r + 1) * (r + 1) := by
  induction x with
  | zero => exact ⟨0, by omega, by omega⟩
  | succ x ih =>
    obtain ⟨r, h1, h2⟩ := ih
    by_cases h : (r + 1) * (r + 1) ≤ x + 1
    · refine ⟨r + 1, h, ?_⟩
      have : (r + 1 + 1) * (r + 1 + 1) = (r + 1) * (r + 1) + 2 * (r + 1) + 1 := by
        rw [Nat.add_mul, Nat.mul_add]; omega
      omega
    · exact ⟨r, by omega, by omega⟩
/-- The root, downwards. -/
noncomputable def rootN (x : Nat) : Nat := Classical.choose (root_ex x)
theorem rootN_le (x : Nat) : rootN x * rootN x ≤ x := (Classical.choose_spec (root_ex x)).1
theorem rootN_lt (x : Nat) : x < (rootN x + 1) * (rootN x + 1) := (Classical.choose_spec (root_ex x)).2
theorem sq_lt {a b : Nat} (h : a * a < (b + 1) * (b + 1)) : a ≤ b := by
  rcases Nat.lt_or_ge b a with h1 | h1
  · have := Nat.mul_le_mul h1 h1; simp only [Nat.succ_eq_add_one] at this; omega
  · exact h1
theorem rootN_eq {x r : Nat} (h1 : r * r ≤ x) (h2 : x < (r + 1) * (r + 1)) : rootN x = r := by
  have a := sq_lt (Nat.lt_of_le_of_lt h1 (rootN_lt x))
  have b := sq_lt (Nat.lt_of_le_of_lt (rootN_le x) h2)
  omega
theorem root_start (x : Nat) : x / 4 ^ ((blen x + 1) / 2) = 0 := by
  apply Nat.div_eq_of_lt
  have h := blen_lt x
  have : (4 : Nat) ^ ((blen x + 1) / 2) = 2 ^ (2 * ((blen x + 1) / 2)) := by rw [Nat.pow_mul]
  rw [this]
  exact Nat.lt_of_lt_of_le h (Nat.pow_le_pow_right (by decide) (by omega))
theorem root_next (x u : Nat) : x / 4 ^ u = 4 * (x / 4 ^ (u + 1)) + x / 4 ^ u % 4 := by
  rw [Nat.pow_succ, ← Nat.div_div_eq_div_mul]; omega
/-- The two bits at an even place. -/
theorem root_bits (x u q s : Nat) (hq : q = 2 * u / 24) (hs : s = 2 * u % 24) : bits .and .i64 (nth (digs x) q / 2 ^ s) 3 = ((x / 4 ^ u % 4 : Nat) : Int) := by
  have hm : bits .and .i64 (nth (digs x) q / 2 ^ s) 3 = (nth (digs x) q / 2 ^ s) % 2 ^ 2 := i64_mask _ 2 (by decide)
  rw [hm]
  have hc := (digs_can x).1
  have e1 : val ((digs x).drop q) = ((x / 16777216 ^ q : Nat) : Int) := by
    rw [val_drop _ _ hc, digs_val, ← pow_cast, ← Int.natCast_ediv]
  have e2 : ∃ r : Nat, val ((digs x).drop q) = nth (digs x) q + 16777216 * (r : Int) := by
    by_cases h : q < (digs x).length
    · rw [List.drop_eq_getElem_cons h, nth_lt h]
      have := val_nonneg (hc.drop (q + 1))
      exact ⟨(val ((digs x).drop (q + 1))).toNat, by simp only [val]; omega⟩
    · rw [List.drop_eq_nil_of_le (by omega), nth_ge (by omega)]
      exact ⟨0, rfl⟩
  obtain ⟨r, e2⟩ := e2
  have h0 := hc.nth q
  obtain ⟨y, hy⟩ : ∃ y : Nat, nth (digs x) q = y := ⟨_, (Int.toNat_of_nonneg h0.1).symm⟩
  rw [hy] at e2 h0 ⊢
  have e3 : x / 16777216 ^ q = y + 16777216 * r := by rw [e1] at e2; omega
  have e4 : (4 : Nat) ^ u = 16777216 ^ q * 2 ^ s := by
    rw [show (16777216 : Nat) = 2 ^ 24 from rfl, show (4 : Nat) = 2 ^ 2 from rfl, ← Nat.pow_mul, ← Nat.pow_mul, ← Nat.pow_add]; congr 1; omega
  have e5 : (2 : Int) ^ s = ((2 ^ s : Nat) : Int) := (Int.natCast_pow 2 s).symm
  rw [e4, ← Nat.div_div_eq_div_mul, e3, e5, ← Int.natCast_ediv, show (2 : Int) ^ 2 = ((4 : Nat) : Int) from rfl, ← Int.natCast_emod]
  congr 1
  have hs2 : s ≤ 22 := by omega
  have e6 : (16777216 : Nat) = 2 ^ s * (4 * 2 ^ (22 - s)) := by
    rw [show (4 : Nat) = 2 ^ 2 from rfl, ← Nat.pow_add, ← Nat.pow_add, show s + (2 + (22 - s)) = 24 from by omega]
  rw [show y + 16777216 * r = y + 2 ^ s * (4 * (2 ^ (22 - s) * r)) from by rw [show 2 ^ s * (4 * (2 ^ (22 - s) * r)) = 2 ^ s * (4 * 2 ^ (22 - s)) * r from by ac_rfl, ← e6], Nat.add_mul_div_left _ _ (Nat.two_pow_pos s)]
  omega
theorem up_val {l : List Int} {m by_ : Nat} {inn : Int} (hl : l.length = m) (hL : Lims l) (h0 : 0 ≤ inn) (h1 : inn + val l * ((2 ^ by_ : Nat) : Int) < 16777216 ^ m) :
    val (limbs m inn (fun j => nth l j * ((2 ^ by_ : Nat) : Int))) = inn + val l * ((2 ^ by_ : Nat) : Int) := by
  have e : sumf m (fun j => nth l j * ((2 ^ by_ : Nat) : Int)) = val l * ((2 ^ by_ : Nat) : Int) := by
    rw [sumf_mul, sumf_nth _ _ (by omega)]
  have := Int.mul_nonneg (val_nonneg hL) (Int.natCast_nonneg (2 ^ by_))
  rw [limbs_fit _ _ _ (by rw [e]; omega) (by rw [e]; exact h1), e]
theorem sub_val {a b : List Int} {m : Nat} (ha : a.length = m) (hb : b.length = m) (hA : Lims a) (hB : Lims b) (h : val b ≤ val a) : val (limbs m 0 (fun j => nth a j - nth b j)) = val a - val b := by
  have e : sumf m (fun j => nth a j - nth b j) = val a - val b := by rw [sumf_sub, sumf_nth _ _ (by omega), sumf_nth _ _ (by omega)]
  have h1 := val_lt hA
  have h2 := val_nonneg hB
  rw [ha] at h1
  rw [limbs_fit _ _ _ (by rw [e]; omega) (by rw [e]; omega), e]; exact Int.zero_add _
theorem root_fit {x R m n : Nat} (hx : x < 16777216 ^ n) (hn : n ≤ 2 * (m - 1)) (hR : R * R ≤ x) : R < 16777216 ^ (m - 1) := by
  rcases Nat.lt_or_ge R (16777216 ^ (m - 1)) with h | h
  · exact h
  · have h1 := Nat.mul_le_mul h h
    rw [← Nat.pow_add] at h1
    have h2 : (16777216 : Nat) ^ n ≤ 16777216 ^ (m - 1 + (m - 1)) := Nat.pow_le_pow_right (by decide) (by omega)
    omega
theorem cmpTop_all {a b : List Int} {m : Nat} (ha : Lims a) (hb : Lims b) (h1 : a.length = m) (h2 : b.length = m) : cmpTop a b m = cmpI (val a) (val b) := by
  have := cmpTop_val ha hb m (by omega) (by omega)
  rw [List.take_of_length_le (by omega), List.take_of_length_le (by omega)] at this
  exact this
/-- A round of the root: what is left, the root, twice two bits further down. -/
structure RootAt (x m u R D : Nat) : Prop where
  eq : R * R + D = x / 4 ^ u
  le : D ≤ 2 * R
  fit : R < 16777216 ^ (m - 1)
theorem root_bound {x m u R D : Nat} (h : RootAt x m u R D) (hm : 2 ≤ m) : 4 * D + 3 < 16777216 ^ m ∧ 4 * R + 1 < 16777216 ^ m ∧ 2 * R + 1 < 16777216 ^ m := by
  have h1 := h.fit
  have h2 := h.le
  obtain ⟨k, rfl⟩ : ∃ k, m = k + 1 := ⟨m - 1, by omega⟩
  rw [Nat.add_sub_cancel] at h1
  rw [Nat.pow_succ]
  omega
theorem root_zero {x m : Nat} : RootAt x m ((blen x + 1) / 2) 0 0 := ⟨by rw [root_start], by omega, Nat.pow_pos (by decide)⟩
theorem root_yes {x m n u R D b : Nat} (h : RootAt x m (u + 1) R D) (hb : b = x / 4 ^ u % 4) (hx : x < 16777216 ^ n) (hn : n ≤ 2 * (m - 1)) (ht : 4 * R + 1 ≤ 4 * D + b) : RootAt x m u (2 * R + 1) (4 * D + b - (4 * R + 1)) := by
  have e := root_next x u
  have e1 := h.eq
  have e2 := h.le
  have hs : (2 * R + 1) * (2 * R + 1) = 4 * (R * R) + 4 * R + 1 := by
    rw [Nat.add_mul, Nat.mul_add, show 2 * R * (2 * R) = 4 * (R * R) from by rw [Nat.mul_mul_mul_comm]]; omega
  have hq : (2 * R + 1) * (2 * R + 1) + (4 * D + b - (4 * R + 1)) = x / 4 ^ u := by rw [hs, e, ← hb, ← e1]; omega
  exact ⟨hq, by omega, root_fit hx hn (Nat.le_trans (by omega) (Nat.le_trans (Nat.le_of_eq hq) (Nat.div_le_self x (4 ^ u))))⟩
theorem root_no {x m n u R D b : Nat} (h : RootAt x m (u + 1) R D) (hb : b = x / 4 ^ u % 4) (hx : x < 16777216 ^ n) (hn : n ≤ 2 * (m - 1)) (ht : 4 * D + b < 4 * R + 1) : RootAt x m u (2 * R) (4 * D + b) := by
  have e := root_next x u
  have e1 := h.eq
  have hs : 2 * R * (2 * R) = 4 * (R * R) := by rw [Nat.mul_mul_mul_comm]
  have hq : 2 * R * (2 * R) + (4 * D + b) = x / 4 ^ u := by rw [hs, e, ← hb, ← e1]; omega
  exact ⟨hq, by omega, root_fit hx hn (Nat.le_trans (by omega) (Nat.le_trans (Nat.le_of_eq hq) (Nat.div_le_self x (4 ^ u))))⟩
theorem root_end {x m R D : Nat} (h : RootAt x m 0 R D) : rootN x = R := by
  have e := h.eq
  have e2 := h.le
  rw [Nat.pow_zero, Nat.div_one] at e
  refine rootN_eq (by omega) ?_
  rw [Nat.add_mul, Nat.mul_add]; omega
theorem pow_le_nat {a b : Nat} (h : a ≤ b) : (16777216 : Nat) ^ a ≤ 16777216 ^ b := Nat.pow_le_pow_right (by decide) h
theorem nat_lt_int {a m : Nat} (h : a < 16777216 ^ m) : (a : Int) < 16777216 ^ m := by rw [← pow_cast]; exact Int.ofNat_lt.2 h

/-! ### limb by limb, what is left ahead -/
theorem drop_step (l : List Int) (i : Nat) : val (l.drop i) = nth l i + 16777216 * val (l.drop (i + 1)) := by
  by_cases h : i < l.length
  · rw [List.drop_eq_getElem_cons h, nth_lt h]; rfl
  · rw [List.drop_eq_nil_of_le (by omega), List.drop_eq_nil_of_le (by omega), nth_ge (by omega)]; rfl
theorem drop_nil_val {l : List Int} {i : Nat} (h : l.length ≤ i) : val (l.drop i) = 0 := by rw [List.drop_eq_nil_of_le h]; rfl
theorem val_snoc (d : List Int) (v : Int) : val (d ++ [v]) = val d + 16777216 ^ d.length * v := by rw [val_append]; simp [val]
/-- One limb of a sum (or a difference) told: what is told, and what is left ahead, is as it was. -/
theorem ahead_step {V p f c r T : Int} (h : V + p * (c + (f + 16777216 * r)) = T) : V + p * ((f + c) % 16777216) + p * 16777216 * ((f + c) / 16777216 + r) = T := by
  have e : 16777216 * ((f + c) / 16777216) + (f + c) % 16777216 = f + c := Int.mul_ediv_add_emod _ _
  generalize (f + c) / 16777216 = d at e ⊢
  generalize (f + c) % 16777216 = m at e ⊢
  rw [← h]
  have : m = f + c - 16777216 * d := by omega
  subst this
  rw [Int.mul_sub, Int.mul_add, Int.mul_add, Int.mul_add, Int.mul_add, Int.mul_assoc p 16777216 d, Int.mul_assoc p 16777216 r]; omega
theorem val_drop_le {l : List Int} (h : Lims l) (i : Nat) : val (l.drop i) ≤ val l := by
  rw [val_drop l i h]
  exact Int.ediv_le_self _ (val_nonneg h)

/-! ### rows in the reference's own steps -/
theorem trim_self (x : Nat) : trimL (digs x) = digs x := trim_digs (digs_can x).1 (digs_val x)
theorem digs_one : digs 1 = [1] := by rw [digs_pos (by decide), show 1 / 16777216 = 0 from rfl, digs_zero]; rfl
/-- The last limb of a shift is what is left over. -/
theorem limbs_last (f : Nat → Int) : ∀ (n : Nat) (c : Int), ∃ c', limbs (n + 1) c f = limbs n c f ++ [(f n + c') % 16777216] := by
  intro n
  induction n generalizing f with
  | zero => intro c; exact ⟨c, by simp [limbs]⟩
  | succ n ih =>
    intro c
    obtain ⟨c', h⟩ := ih (fun i => f (i + 1)) ((f 0 + c) / 16777216)
    refine ⟨c', ?_⟩
    rw [limbs, h]; simp [limbs]
theorem shr_limb {x y p q : Int} (hp : 0 < p) (hpq : p * q = 16777216) : x / p + y % p * (16777216 / p) = x / p + y * q % 16777216 := by
  have hq : 16777216 / p = q := by rw [← hpq]; exact Int.mul_ediv_cancel_left _ (by omega)
  have hq0 : 0 < q := by
    rcases Int.lt_trichotomy q 0 with h | h | h
    · have : p * q < 0 := Int.mul_neg_of_pos_of_neg hp h
      omega
    · subst h; simp at hpq
    · exact h
  have c : y * q % 16777216 = q * (y % p) := by rw [← hpq, Int.mul_comm p q, Int.mul_comm y q, Int.mul_emod_mul_of_pos _ _ hq0]
  rw [c, hq, Int.mul_comm q]
theorem shrL_take (p q : Int) (u : List Int) (i : Nat) (h : i < u.length) : (shrL p q u).take (i + 1) = (shrL p q u).take i ++ [nth u i / p + nth u (i + 1) * q % 16777216] := by
  rw [List.take_succ_eq_append_getElem (by rw [shrL_len]; exact h), ← nth_lt (by rw [shrL_len]; exact h), shrL_nth _ _ _ _ h]
/-- Bit by bit from the highest one. -/
structure BitAt (x k R : Nat) : Prop where
  le : R * R ≤ x
  lt : x < (R + 2 ^ k) * (R + 2 ^ k)
theorem bit_zero (x : Nat) : BitAt x ((blen x + 1) / 2 + 1) 0 := ⟨by omega, by
  have h := blen_lt x
  rw [Nat.zero_add, ← Nat.pow_add]
  exact Nat.lt_of_lt_of_le h (Nat.pow_le_pow_right (by decide) (by omega))⟩
theorem bit_yes {x k R : Nat} (h : BitAt x (k + 1) R) (ht : (R + 2 ^ k) * (R + 2 ^ k) ≤ x) : BitAt x k (R + 2 ^ k) := ⟨ht, by
  have := h.lt
  rwa [Nat.pow_succ, show R + 2 ^ k * 2 = R + 2 ^ k + 2 ^ k from by omega] at this⟩
theorem bit_no {x k R : Nat} (h : BitAt x (k + 1) R) (ht : x < (R + 2 ^ k) * (R + 2 ^ k)) : BitAt x k R := ⟨h.le, ht⟩
theorem bit_end {x R : Nat} (h : BitAt x 0 R) : rootN x = R := rootN_eq h.le (by have := h.lt; rwa [Nat.pow_zero] at this)
theorem sq_le_self {R x : Nat} (h : R * R ≤ x) : R ≤ x := by
  rcases Nat.eq_zero_or_pos R with h0 | h0
  · omega
  · have := Nat.mul_le_mul_left R h0; omega
/-- How long what is tried may be. -/
theorem try_len {x k R n : Nat} (h : R * R ≤ x) (hk : k ≤ (blen x + 1) / 2) (hx : (digs x).length ≤ n) : (digs (R + 2 ^ k)).length ≤ n + 1 := by
  apply digs_len_le.2
  have h1 := digs_len_le.1 hx
  have h2 := sq_le_self h
  have h3 : (2 : Nat) ^ k ≤ 2 ^ (24 * n) := by
    apply Nat.pow_le_pow_right (by decide)
    have : blen x ≤ 24 * n := blen_le.2 (by rw [Nat.pow_mul]; exact h1)
    by_cases hb : blen x = 0
    · rcases Nat.eq_zero_or_pos n with h0 | h0
      · subst h0; omega
      · omega
    · omega
  rw [Nat.pow_mul] at h3
  rw [Nat.pow_succ]
  have : (2 : Nat) ^ 24 = 16777216 := rfl
  rw [this] at h3
  omega
theorem digs_len_mono {x y : Nat} (h : x ≤ y) : (digs x).length ≤ (digs y).length := digs_len_le.2 (Nat.lt_of_le_of_lt h (digs_lt y))
end Go.Proofs.YtnmjnjhijcnbcaaDoor.Pl
