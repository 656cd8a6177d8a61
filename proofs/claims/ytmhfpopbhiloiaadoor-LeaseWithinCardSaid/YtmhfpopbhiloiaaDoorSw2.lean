/-
  WHAT THE WORDS' OPERATIONS ARE, AND WHEN A LIST IS A SET (of no program).
-/
import Derived.Test.YtmhfpopbhiloiaaDoorSw1
import Derived.Test.YtmhfpopbhiloiaaDoorAv21
import Derived.Laws.Bits64
namespace Go.Av
theorem u64_nat (x : Nat) (h : x < 18446744073709551616) : (BitVec.ofInt IntKind.u64.bits (x : Int)).toNat = x := by
  show (BitVec.ofInt 64 (x : Int)).toNat = x
  rw [BitVec.ofInt_natCast, BitVec.toNat_ofNat]; exact Nat.mod_eq_of_lt (by omega)
theorem u64_wrap (x : Nat) (h : x < 18446744073709551616) : IntKind.u64.wrap (x : Int) = (x : Int) := by rw [IntKind.wrap_u64]; omega
theorem u64_or (x y : Nat) (hx : x < 18446744073709551616) (hy : y < 18446744073709551616) : IntKind.u64.wrap (BitVec.ofInt IntKind.u64.bits (x : Int) ||| BitVec.ofInt IntKind.u64.bits (y : Int)).toNat = ((x ||| y : Nat) : Int) := by
  rw [BitVec.toNat_or, u64_nat x hx, u64_nat y hy]
  exact u64_wrap _ (Nat.or_lt_two_pow (n := 64) hx hy)
theorem u64_and (x y : Nat) (hx : x < 18446744073709551616) (hy : y < 18446744073709551616) : IntKind.u64.wrap (BitVec.ofInt IntKind.u64.bits (x : Int) &&& BitVec.ofInt IntKind.u64.bits (y : Int)).toNat = ((x &&& y : Nat) : Int) := by
  rw [BitVec.toNat_and, u64_nat x hx, u64_nat y hy]
  exact u64_wrap _ (Nat.and_lt_two_pow (n := 64) _ hy)
theorem u64_andNot (f g : Nat → Bool) (i : Nat) : IntKind.u64.wrap (BitVec.ofInt IntKind.u64.bits (wd f i : Int) &&& ~~~ (BitVec.ofInt IntKind.u64.bits (wd g i : Int))).toNat = ((wd (fun n => f n && !g n) i : Nat) : Int) := by
  have e : (BitVec.ofInt IntKind.u64.bits (wd f i : Int) &&& ~~~ (BitVec.ofInt IntKind.u64.bits (wd g i : Int))).toNat = wd (fun n => f n && !g n) i := by
    rw [BitVec.toNat_and, BitVec.toNat_not, u64_nat _ (wd_lt f i), u64_nat _ (wd_lt g i)]
    apply Nat.eq_of_testBit_eq; intro j
    rw [Nat.testBit_and, show (2 : Nat) ^ IntKind.u64.bits - 1 - wd g i = 2 ^ 64 - (wd g i + 1) by show 2 ^ 64 - 1 - wd g i = _; omega, Nat.testBit_two_pow_sub_succ (wd_lt g i), wd_bit, wd_bit, wd_bit]
    cases decide (j < 64) <;> simp
  rw [e]
  exact u64_wrap _ (wd_lt _ _)
/-- A word with the lowest bit less. -/
theorem u64_pred (x : Nat) (h0 : x ≠ 0) (h : x < 18446744073709551616) : IntKind.u64.wrap ((x : Int) - 1) = ((x - 1 : Nat) : Int) := by rw [IntKind.wrap_u64]; omega

/-! ### lists that are sets -/
def okB (l : List Int) (i : Nat) : Bool := match l[i]? with
  | none => true
  | some n => decide (0 ≤ n) && decide (n < 256) && (i == 0 || match l[i - 1]? with
    | some m => decide (m < n)
    | none => true)
def sok (l : List Int) : Bool := (List.range l.length).all (okB l)
theorem sok_false {l : List Int} {k : Nat} (hk : k < l.length) (h : okB l k = false) : sok l = false := by
  cases hs : sok l with
  | false => rfl
  | true =>
    have := List.all_eq_true.1 hs k (by simpa using hk)
    rw [h] at this; cases this
theorem sok_true {l : List Int} (h : ∀ k, k < l.length → okB l k = true) : sok l = true := List.all_eq_true.2 fun k hk => h k (by simpa using hk)
theorem sok_get {l : List Int} (h : sok l = true) {k : Nat} (hk : k < l.length) : okB l k = true := List.all_eq_true.1 h k (by simpa using hk)
theorem okB_get {l : List Int} {k : Nat} {n : Int} (hn : l[k]? = some n) : okB l k = (decide (0 ≤ n) && decide (n < 256) && (k == 0 || match l[k - 1]? with
    | some m => decide (m < n)
    | none => true)) := by rw [okB, hn]
theorem okB_range {l : List Int} {k : Nat} {n : Int} (hn : l[k]? = some n) (h : okB l k = true) : 0 ≤ n ∧ n < 256 := by
  rw [okB_get hn] at h
  simp only [Bool.and_eq_true, decide_eq_true_eq] at h
  exact h.1
/-- Is a number in a list? -/
def inl (l : List Int) (j : Nat) : Bool := l.any fun n => n == (j : Int)
/-- How far a list is a set. -/
def okn (l : List Int) : Nat := ((List.range l.length).takeWhile (okB l)).length
theorem takeWhile_range {p : Nat → Bool} {n k : Nat} (hk : k ≤ n) (h : ∀ i, i < k → p i = true) (h2 : k < n → p k = false) : ((List.range n).takeWhile p).length = k := by
  obtain ⟨d, rfl⟩ : ∃ d, n = k + d := ⟨n - k, by omega⟩
  rw [List.range_add, List.takeWhile_append_of_pos (by intro i hi; exact h i (by simpa using hi))]
  cases d with
  | zero => simp
  | succ d =>
    have : (List.map (fun x => k + x) (List.range (d + 1))).takeWhile p = [] := by
      rw [List.range_succ_eq_map, List.map_cons, Nat.add_zero, List.takeWhile_cons_of_neg (by rw [h2 (by omega)]; simp)]
    rw [this]; simp
theorem okn_at {l : List Int} {k : Nat} (hk : k < l.length) (h : ∀ i, i < k → okB l i = true) (h2 : okB l k = false) : okn l = k := takeWhile_range (Nat.le_of_lt hk) h fun _ => h2
theorem okn_all {l : List Int} (h : ∀ i, i < l.length → okB l i = true) : okn l = l.length := takeWhile_range (Nat.le_refl _) h fun h => absurd h (Nat.lt_irrefl _)
/-- The last number ahead of a place. -/
def lastN (l : List Int) (k : Nat) : Int := if k = 0 then -1 else (l[k - 1]?).getD 0
theorem okB_last {l : List Int} {k : Nat} {n : Int} (hn : l[k]? = some n) (h : ∀ i, i < k → okB l i = true) : okB l k = !(decide (n ≤ lastN l k) || decide (256 ≤ n)) := by
  rw [okB_get hn, lastN]
  cases k with
  | zero => simp; rw [Bool.eq_iff_iff]; simp; omega
  | succ k =>
    have hk : k < l.length := by have := (List.getElem?_eq_some_iff.1 hn).1; omega
    have hm : l[k]? = some l[k] := List.getElem?_eq_getElem hk
    have := okB_range hm (h k (by omega))
    simp only [Nat.add_sub_cancel, hm, Option.getD_some]
    rw [Bool.eq_iff_iff]
    simp
    omega
/-- The words of a list's beginning. -/
def fpre (l : List Int) (k : Nat) : Nat → Bool := inl (l.take k)
theorem fpre_step {l : List Int} {k : Nat} {n : Nat} (hn : l[k]? = some (n : Int)) : fpre l (k + 1) = fun m => fpre l k m || m == n := by
  funext m
  rw [fpre, fpre, take_snoc_get hn, inl, inl, List.any_append]
  congr 1
  rw [List.any_cons, List.any_nil, Bool.or_false, Bool.eq_iff_iff]
  simp
  omega
theorem fpre_zero (l : List Int) : fpre l 0 = fun _ => false := rfl
theorem fpre_all (l : List Int) : fpre l l.length = inl l := by rw [fpre, List.take_length]
/-- Four words. -/
def eWn (w : Nat → Nat) : List AV := (List.range 4).map fun j => .int .u64 ((w j : Nat) : Int)
theorem eWn_get (w : Nat → Nat) {k : Nat} (h : k < 4) : (eWn w)[k]? = some (.int .u64 ((w k : Nat) : Int)) := by simp [eWn, List.getElem?_map, List.getElem?_range h]
theorem eWn_set (w : Nat → Nat) {k : Nat} (h : k < 4) (x : Nat) : (eWn w).take k ++ [AV.int .u64 (x : Int)] ++ (eWn w).drop (k + 1) = eWn fun j => if j = k then x else w j := by
  match k, h with
  | 0, _ => rfl
  | 1, _ => rfl
  | 2, _ => rfl
  | 3, _ => rfl
theorem eWn_congr {w v : Nat → Nat} (h : ∀ j, j < 4 → w j = v j) : eWn w = eWn v := List.map_congr_left fun j hj => by rw [h j (by simpa using hj)]
end Go.Av
