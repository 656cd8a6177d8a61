/-
  SETS AS WORDS OF BITS (of no program).
-/
import Derived.Test.YtmhfpopbhiloiaaDoorAv22
import Derived.Lib.TrailingZeros
namespace Go.Av
def wdn (f : Nat → Bool) (b : Nat) : Nat → Nat
  | 0 => 0
  | n + 1 => wdn f b n + (if f (b + n) then 2 ^ n else 0)
theorem wdn_lt (f : Nat → Bool) (b : Nat) : ∀ n, wdn f b n < 2 ^ n
  | 0 => by simp [wdn]
  | n + 1 => by
    have := wdn_lt f b n
    unfold wdn
    rw [Nat.pow_succ]
    split <;> omega
theorem wdn_bit (f : Nat → Bool) (b : Nat) : ∀ n j, (wdn f b n).testBit j = (decide (j < n) && f (b + j))
  | 0, j => by simp [wdn]
  | n + 1, j => by
    have hlt := wdn_lt f b n
    have ih := wdn_bit f b n j
    have hl2 := wdn_lt f b (n + 1)
    by_cases h : n + 1 ≤ j
    · rw [Nat.testBit_lt_two_pow (Nat.lt_of_lt_of_le hl2 (Nat.pow_le_pow_right (by decide) h))]
      simp
      omega
    · unfold wdn
      by_cases e : j = n
      · subst e
        cases hf : f (b + j)
        · simp [ih]
        · simp only [if_true]
          rw [Nat.add_comm, Nat.testBit_two_pow_add_eq, ih]
          simp
      · cases hf : f (b + n)
        · simp only [Bool.false_eq_true, if_false, Nat.add_zero]
          rw [ih, show decide (j < n) = decide (j < n + 1) by simp; omega]
        · simp only [if_true]
          rw [Nat.add_comm, Nat.testBit_two_pow_add_gt (by omega), ih, show decide (j < n) = decide (j < n + 1) by simp; omega]
def wd (f : Nat → Bool) (i : Nat) : Nat := wdn f (64 * i) 64
theorem wd_lt (f : Nat → Bool) (i : Nat) : wd f i < 18446744073709551616 := wdn_lt f _ 64
theorem wd_bit (f : Nat → Bool) (i j : Nat) : (wd f i).testBit j = (decide (j < 64) && f (64 * i + j)) := wdn_bit f _ 64 j
theorem wd_or (f g : Nat → Bool) (i : Nat) : wd f i ||| wd g i = wd (fun n => f n || g n) i := by
  apply Nat.eq_of_testBit_eq; intro j
  rw [Nat.testBit_or, wd_bit, wd_bit, wd_bit]
  cases decide (j < 64) <;> simp
theorem wd_and (f g : Nat → Bool) (i : Nat) : wd f i &&& wd g i = wd (fun n => f n && g n) i := by
  apply Nat.eq_of_testBit_eq; intro j
  rw [Nat.testBit_and, wd_bit, wd_bit, wd_bit]
  cases decide (j < 64) <;> simp
theorem wd_put (f : Nat → Bool) (n i : Nat) : wd (fun m => f m || m == n) i = if i = n / 64 then wd f i ||| 2 ^ (n % 64) else wd f i := by
  apply Nat.eq_of_testBit_eq; intro j
  split
  · rename_i h
    rw [Nat.testBit_or, wd_bit, wd_bit, Nat.testBit_two_pow]
    by_cases hj : j < 64
    · rw [show (64 * i + j == n) = decide (n % 64 = j) by rw [Bool.eq_iff_iff]; simp; omega]
      simp [hj]
    · have : ¬ n % 64 = j := by omega
      simp [hj, this]
  · rename_i h
    rw [wd_bit, wd_bit]
    by_cases hj : j < 64
    · rw [show (64 * i + j == n) = false by simp; omega]
      simp
    · simp [hj]
theorem wd_zero (i : Nat) : wd (fun _ => false) i = 0 := by
  apply Nat.eq_of_testBit_eq; intro j
  rw [wd_bit]; simp
theorem wd_eq_zero (f : Nat → Bool) (i : Nat) : wd f i = 0 ↔ ∀ j, j < 64 → f (64 * i + j) = false := by
  constructor
  · intro h j hj
    have := wd_bit f i j
    rw [h] at this
    simpa [hj] using this.symm
  · intro h
    apply Nat.eq_of_testBit_eq; intro j
    rw [wd_bit]
    by_cases hj : j < 64
    · simp [h j hj]
    · simp [hj]

/-! The numbers of a word's bits, in order. -/
def bl (x : Nat) : List Nat := (List.range 64).filter x.testBit
theorem bl_zero : bl 0 = [] := by decide
theorem low_bit {x : Nat} (h0 : x ≠ 0) (h : x < 18446744073709551616) : Lib.ctz 64 x < 64 ∧ x.testBit (Lib.ctz 64 x) = true ∧ (∀ j, j < Lib.ctz 64 x → x.testBit j = false) ∧ ∀ j, (x &&& (x - 1)).testBit j = (decide (Lib.ctz 64 x < j) && x.testBit j) := by
  obtain ⟨m, hm, hk⟩ := Lib.ctzFrom_spec 64 x (by omega) h
  have e : Lib.ctz 64 x = Lib.ctzFrom 64 x := by simp [Lib.ctz, h0]
  rw [e]
  generalize Lib.ctzFrom 64 x = k at hm hk
  have hp : 0 < 2 ^ k := Nat.pow_pos (by decide)
  have hx : ∀ j, x.testBit j = (decide (k ≤ j) && (2 * m + 1).testBit (j - k)) := by
    intro j
    rw [hm, Nat.mul_comm, Nat.testBit_mul_two_pow]
  have hx1 : x - 1 = 2 ^ k * (2 * m) + (2 ^ k - 1) := by
    rw [hm, Nat.mul_add, Nat.mul_one]; omega
  have hx1' : ∀ j, (x - 1).testBit j = if j < k then (2 ^ k - 1).testBit j else (2 * m).testBit (j - k) := by
    intro j
    rw [hx1]
    exact Nat.testBit_two_pow_mul_add _ (by omega) _
  refine ⟨hk, ?_, fun j hj => ?_, fun j => ?_⟩
  · rw [hx]; simp
  · rw [hx]; simp; omega
  · rw [Nat.testBit_and, hx, hx1']
    by_cases h1 : j < k
    · have : ¬ k ≤ j := by omega
      simp [this]
    · rw [if_neg h1]
      by_cases h2 : j = k
      · subst h2; simp
      · obtain ⟨d, rfl⟩ : ∃ d, j = k + (d + 1) := ⟨j - k - 1, by omega⟩
        rw [show k + (d + 1) - k = d + 1 by omega, Nat.testBit_succ, Nat.testBit_succ, show (2 * m + 1) / 2 = m by omega, show 2 * m / 2 = m by omega]
        have : k ≤ k + (d + 1) := by omega
        have h3 : k < k + (d + 1) := by omega
        simp [this, h3]
theorem bl_step {x : Nat} (h0 : x ≠ 0) (h : x < 18446744073709551616) : bl x = Lib.ctz 64 x :: bl (x &&& (x - 1)) := by
  obtain ⟨hk, h1, h2, h3⟩ := low_bit h0 h
  generalize Lib.ctz 64 x = k at hk h1 h2 h3
  have hr : List.range 64 = List.range k ++ k :: (List.range (63 - k)).map (fun j => k + 1 + j) := by
    have e1 : (64 : Nat) = k + (1 + (63 - k)) := by omega
    conv => lhs; rw [e1, List.range_add, List.range_add]
    simp [Function.comp_def, Nat.add_assoc]
  unfold bl
  rw [hr, List.filter_append, List.filter_append, List.filter_cons_of_pos h1, List.filter_cons_of_neg (by rw [h3]; simp)]
  have e1 : (List.range k).filter x.testBit = [] := List.filter_eq_nil_iff.2 (by intro j hj; rw [h2 j (by simpa using hj)]; simp)
  have e2 : (List.range k).filter (x &&& (x - 1)).testBit = [] := List.filter_eq_nil_iff.2 (by
    intro j hj
    have : j < k := by simpa using hj
    rw [h3]
    simp
    omega)
  rw [e1, e2]
  simp only [List.nil_append, List.cons.injEq, true_and]
  refine List.filter_congr fun j hj => ?_
  simp only [List.mem_map, List.mem_range] at hj
  obtain ⟨d, _, rfl⟩ := hj
  rw [h3]
  have : k < k + 1 + d := by omega
  simp [this]
theorem and_pred_lt {x : Nat} (h0 : x ≠ 0) : x &&& (x - 1) < x := Nat.lt_of_le_of_lt Nat.and_le_right (by omega)

/-- A set's numbers, in order, up to 64 n. -/
def setN (f : Nat → Bool) (n : Nat) : List Int := ((List.range (64 * n)).filter f).map fun j : Nat => (j : Int)
def setl (f : Nat → Bool) : List Int := ((List.range 256).filter f).map fun j : Nat => (j : Int)
theorem setN_step (f : Nat → Bool) (n : Nat) : setN f (n + 1) = setN f n ++ (bl (wd f n)).map fun j : Nat => ((64 * n + j : Nat) : Int) := by
  unfold setN
  rw [Nat.mul_add, Nat.mul_one, List.range_add, List.filter_append, List.map_append]
  congr 1
  rw [List.filter_map, List.map_map]
  have : bl (wd f n) = (List.range 64).filter (f ∘ fun x => 64 * n + x) := by
    refine List.filter_congr fun j hj => ?_
    rw [wd_bit]
    simp [List.mem_range.1 hj]
  rw [this]
  rfl
theorem setN_four (f : Nat → Bool) : setN f 4 = setl f := rfl
theorem setN_zero (f : Nat → Bool) : setN f 0 = [] := rfl
end Go.Av
