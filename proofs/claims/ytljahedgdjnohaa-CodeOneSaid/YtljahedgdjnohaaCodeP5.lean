/- Parts of the proof: rules for an abstract memory, plain laws, and walks through the program. -/
import Derived.Test.YtljahedgdjnohaaCodeP4
import Derived.Test.YtljahedgdjnohaaCodeP3
import Derived.Test.YtljahedgdjnohaaCodeP2
/-
  LISTS OF PARTS AS BYTES, plainly: put and read.
-/
namespace Go.Av
theorem gots_step (m : Nat) (first : Bool) (last : Nat) (acc : List Int) : (fun b => gots (m + 1) first last acc b : Rd (List Int)) = pb gotf fun far => pb gotf fun more => if far < 256 ∧ more < 256 ∧ last + far + more < 256 ∧ (first = true ∨ 1 < far) then (fun b => gots m false (last + far + more) (acc ++ goti (last + far) (last + far + more)) b) else failP 3 := by
  funext b
  cases h : gotf b with
  | error e => rw [pb_err h, gots, show got 0 0 b = .error e from h]
  | ok x =>
    obtain ⟨far, b1⟩ := x
    rw [pb_ok h, gots, show got 0 0 b = .ok (far, b1) from h]
    simp only
    cases h1 : gotf b1 with
    | error e => rw [pb_err h1, show got 0 0 b1 = .error e from h1]
    | ok x =>
      obtain ⟨more, b2⟩ := x
      rw [pb_ok h1, show got 0 0 b1 = .ok (more, b2) from h1]
      simp only
      split <;> rfl
theorem gots_pfx : ∀ (m : Nat) (first : Bool) (last : Nat) (acc : List Int), Pfx (fun b => gots m first last acc b)
  | 0, first, last, acc => need_pfx true acc
  | m + 1, first, last, acc => by
    rw [gots_step]
    exact pb_pfx got_pfx fun far => pb_pfx got_pfx fun more => ite_pfx (gots_pfx m _ _ _) (fail_pfx _)
theorem rset_pb : rset = pb nextP fun c => if c ≠ 2 then failP 3 else pb gotf fun many => if 256 < many then failP 3 else fun b => gots many true 0 [] b := by
  funext b
  cases b with
  | nil => rfl
  | cons c r =>
    rw [pb_ok (v := c) (r := r) rfl, rset]
    split
    · rfl
    · cases h : gotf r with
      | error e => rw [pb_err h, show got 0 0 r = .error e from h]
      | ok x =>
        obtain ⟨m, b⟩ := x
        rw [pb_ok h, show got 0 0 r = .ok (m, b) from h]
        simp only
        split <;> rfl
theorem rset_pfx : Pfx rset := by
  rw [rset_pb]
  exact pb_pfx next_pfx fun _ => ite_pfx (fail_pfx _) (pb_pfx got_pfx fun _ => ite_pfx (fail_pfx _) (gots_pfx _ _ _ _))
/-! ### parts -/
def rpart : Rd (List UInt8) := fun b => match b with
  | [] => .error 2
  | c :: _ => if c = 1 then (match rspec b with
      | .error e => .error e
      | .ok (_, r) => .ok (b.take (b.length - r.length), r))
    else match rset b with
      | .error e => .error e
      | .ok (_, r) => .ok (b.take (b.length - r.length), r)
def okPart (p : List UInt8) : Bool := decide ((readSpec p).2 = 0) || decide ((readSet p).2 = 0)
def putList (l : List (List UInt8)) : List UInt8 × Int := if 1000 < l.length then ([], 4) else if l.all okPart then (3 :: (numB l.length ++ l.flatten), 0) else ([], 3)
/-- What was read so far, and what is left; or the error. -/
def rlists : Nat → List (List UInt8) → List UInt8 → List (List UInt8) × Except Int (List UInt8)
  | 0, acc, b => (acc, .ok b)
  | m + 1, acc, b => match rpart b with
    | .error e => (acc, .error e)
    | .ok (p, r) => rlists m (acc ++ [p]) r
def rlist : List UInt8 → List (List UInt8) × Except Int (List UInt8)
  | [] => ([], .error 2)
  | c :: r => if c ≠ 3 then ([], .error 3) else match gotf r with
    | .error e => ([], .error e)
    | .ok (many, b) => if 1000 < many then ([], .error 3) else rlists many [] b
def readList (b : List UInt8) : List (List UInt8) × Int :=
  if 65536 < b.length then ([], 4)
  else match rlist b with
    | (_, .error e) => ([], e)
    | (l, .ok []) => (l, 0)
    | (_, .ok (_ :: _)) => ([], 3)
/-- A part: all of it is a spec, or a set. -/
def IsPart (p : List UInt8) : Prop := (∃ s, rspec p = .ok (s, [])) ∨ ∃ l, rset p = .ok (l, [])
theorem take_len {x r : List UInt8} : (x ++ r).take ((x ++ r).length - r.length) = x := by
  rw [List.length_append, Nat.add_sub_cancel, List.take_left' rfl]
theorem rpart_inv {b p r : List UInt8} (h : rpart b = .ok (p, r)) : b = p ++ r ∧ IsPart p := by
  unfold rpart at h
  split at h
  · cases h
  rename_i c b0
  split at h
  · cases hs : rspec (c :: b0) with
    | error e => rw [hs] at h; cases h
    | ok y =>
      obtain ⟨s, r1⟩ := y
      rw [hs] at h
      obtain ⟨x, e1, k1, _⟩ := rspec_pfx _ _ _ hs
      simp only [Except.ok.injEq, Prod.mk.injEq] at h
      obtain ⟨h1, rfl⟩ := h
      rw [e1, take_len] at h1
      subst h1
      have := k1 []
      rw [List.append_nil] at this
      exact ⟨e1, .inl ⟨s, this⟩⟩
  · cases hs : rset (c :: b0) with
    | error e => rw [hs] at h; cases h
    | ok y =>
      obtain ⟨s, r1⟩ := y
      rw [hs] at h
      obtain ⟨x, e1, k1, _⟩ := rset_pfx _ _ _ hs
      simp only [Except.ok.injEq, Prod.mk.injEq] at h
      obtain ⟨h1, rfl⟩ := h
      rw [e1, take_len] at h1
      subst h1
      have := k1 []
      rw [List.append_nil] at this
      exact ⟨e1, .inr ⟨s, this⟩⟩
theorem rset_head {b : List UInt8} {l : List Int} {r : List UInt8} (h : rset b = .ok (l, r)) : ∃ b0, b = 2 :: b0 := by
  cases b with
  | nil => cases h
  | cons c b0 =>
    rw [rset] at h
    split at h
    · cases h
    · rename_i hc
      exact ⟨b0, by congr 1; simpa using hc⟩
theorem rspec_head {b : List UInt8} {s : Spec} {r : List UInt8} (h : rspec b = .ok (s, r)) : ∃ b0, b = 1 :: b0 := ⟨_, (rspec_inv h).2⟩
theorem rpart_put {p r : List UInt8} (h : IsPart p) : rpart (p ++ r) = .ok (p, r) := by
  rcases h with ⟨s, h⟩ | ⟨l, h⟩
  · obtain ⟨x, e, k, _⟩ := rspec_pfx _ _ _ h
    rw [List.append_nil] at e
    subst e
    have h2 := k r
    obtain ⟨b0, rfl⟩ := rspec_head h
    unfold rpart
    rw [List.cons_append]
    simp only [if_true]
    rw [← List.cons_append, h2]
    simp only
    rw [take_len]
  · obtain ⟨x, e, k, _⟩ := rset_pfx _ _ _ h
    rw [List.append_nil] at e
    subst e
    have h2 := k r
    obtain ⟨b0, rfl⟩ := rset_head h
    unfold rpart
    rw [List.cons_append]
    simp only
    rw [if_neg (by decide), ← List.cons_append, h2]
    simp only
    rw [take_len]
theorem rlists_put : ∀ (ps acc : List (List UInt8)) (r : List UInt8), (∀ p ∈ ps, IsPart p) → rlists ps.length acc (ps.flatten ++ r) = (acc ++ ps, .ok r)
  | [], acc, r, _ => by simp [rlists]
  | p :: ps, acc, r, h => by
    rw [List.length_cons, rlists, List.flatten_cons, List.append_assoc, rpart_put (h p (by simp))]
    simp only
    rw [rlists_put ps _ r fun q hq => h q (by simp [hq])]
    simp
theorem rlists_inv : ∀ {m : Nat} {acc l : List (List UInt8)} {b r : List UInt8}, rlists m acc b = (l, .ok r) → ∃ ps, ps.length = m ∧ l = acc ++ ps ∧ b = ps.flatten ++ r ∧ ∀ p ∈ ps, IsPart p
  | 0, acc, l, b, r, h => by cases h; exact ⟨[], rfl, by simp, by simp, by simp⟩
  | m + 1, acc, l, b, r, h => by
    unfold rlists at h
    cases hp : rpart b with
    | error e => rw [hp] at h; cases h
    | ok y =>
      obtain ⟨p, r1⟩ := y
      rw [hp] at h
      obtain ⟨e1, e2⟩ := rpart_inv hp
      obtain ⟨ps, h1, h2, h3, h4⟩ := rlists_inv h
      exact ⟨p :: ps, by simp [h1], by simp [h2], by rw [e1, h3]; simp, by
        intro q hq
        rcases List.mem_cons.1 hq with rfl | hq
        · exact e2
        · exact h4 q hq⟩
theorem okPart_is {p : List UInt8} (h : IsPart p) (hl : p.length ≤ 65536) : okPart p = true := by
  unfold okPart
  rw [Bool.or_eq_true]
  rcases h with ⟨s, h⟩ | ⟨l, h⟩
  · left; rw [readSpec, if_neg (by omega), h]; rfl
  · right; rw [readSet, if_neg (by omega), h]; rfl
/-! ### errors -/
def Err23 {α : Type} (f : Rd α) : Prop := ∀ b e, f b = .error e → e = 2 ∨ e = 3
theorem pb_err23 {α β : Type} {f : Rd α} {g : α → Rd β} (hf : Err23 f) (hg : ∀ v, Err23 (g v)) : Err23 (pb f g) := fun b e h => by
  cases h1 : f b with
  | error e1 => rw [pb_err h1] at h; cases h; exact hf _ _ h1
  | ok x => obtain ⟨v, r⟩ := x; rw [pb_ok h1] at h; exact hg v _ _ h
theorem fail_err23 {α : Type} : Err23 (failP (α := α) 3) := fun b e h => by cases h; exact .inr rfl
theorem need_err23 {α : Type} (c : Bool) (v : α) : Err23 (needP c v) := fun b e h => by
  cases c with
  | true => cases h
  | false => cases h; exact .inr rfl
theorem next_err23 : Err23 nextP := fun b e h => by
  cases b with
  | nil => cases h; exact .inl rfl
  | cons c b => cases h
theorem take_err23 (n : Nat) : Err23 (takeP n) := fun b e h => by
  unfold takeP at h
  split at h
  · cases h; exact .inl rfl
  · cases h
theorem got_err23 : Err23 gotf := fun b e h => got_err h
theorem ite_err23 {α : Type} {c : Prop} [Decidable c] {f g : Rd α} (hf : Err23 f) (hg : Err23 g) : Err23 (if c then f else g) := by split <;> assumption
theorem text_err23 : Err23 textS := pb_err23 got_err23 fun _ => ite_err23 fail_err23 (take_err23 _)
theorem rspec_err23 : Err23 rspec := pb_err23 next_err23 fun _ => ite_err23 fail_err23 (pb_err23 got_err23 fun _ => pb_err23 got_err23 fun _ => pb_err23 got_err23 fun _ => pb_err23 text_err23 fun _ => pb_err23 next_err23 fun _ => ite_err23 fail_err23 (pb_err23 got_err23 fun _ => pb_err23 got_err23 fun _ => need_err23 _ _))
theorem rpart_err23 : Err23 rpart := fun b e h => by
  unfold rpart at h
  split at h
  · cases h; exact .inl rfl
  rename_i c b0
  split at h
  · cases hs : rspec (c :: b0) with
    | error e1 => rw [hs] at h; cases h; exact rspec_err23 _ _ hs
    | ok y => rw [hs] at h; cases h
  · cases hs : rset (c :: b0) with
    | error e1 => rw [hs] at h; cases h; exact rset_err hs
    | ok y => rw [hs] at h; cases h
theorem rlists_err : ∀ {m : Nat} {acc l : List (List UInt8)} {b : List UInt8} {e : Int}, rlists m acc b = (l, .error e) → e = 2 ∨ e = 3
  | 0, _, _, _, _, h => by cases h
  | m + 1, acc, l, b, e, h => by
    unfold rlists at h
    cases hp : rpart b with
    | error e1 => rw [hp] at h; cases h; exact rpart_err23 _ _ hp
    | ok y => obtain ⟨p, r1⟩ := y; rw [hp] at h; exact rlists_err h
theorem rlist_err {b : List UInt8} {l : List (List UInt8)} {e : Int} (h : rlist b = (l, .error e)) : e = 2 ∨ e = 3 := by
  cases b with
  | nil => cases h; exact .inl rfl
  | cons c b0 =>
    rw [rlist] at h
    split at h
    · cases h; exact .inr rfl
    cases hg : gotf b0 with
    | error e1 => rw [hg] at h; cases h; exact got_err23 _ _ hg
    | ok x =>
      obtain ⟨many, b1⟩ := x
      rw [hg] at h
      simp only at h
      split at h
      · cases h; exact .inr rfl
      · exact rlists_err h
theorem okAll {ps : List (List UInt8)} (h : ∀ p ∈ ps, IsPart p) (hl : ps.flatten.length ≤ 65536) : ps.all okPart = true :=
  List.all_eq_true.2 fun p hp => okPart_is (h p hp) (Nat.le_trans (List.Sublist.length_le (List.sublist_flatten_of_mem hp)) hl)
/-- A list is read as1 it was put. -/
theorem readList_put {ps : List (List UInt8)} (hn : ps.length ≤ 1000) (h : ∀ p ∈ ps, IsPart p) (hl : ps.flatten.length ≤ 60000) : (putList ps).2 = 0 ∧ readList (putList ps).1 = (ps, 0) := by
  have hall := okAll h (by omega)
  have e : putList ps = (3 :: (numB ps.length ++ ps.flatten), 0) := by rw [putList, if_neg (by omega), if_pos hall]
  have h10 := numB_10 (n := ps.length) (by omega)
  rw [e]
  refine ⟨rfl, ?_⟩
  simp only
  rw [readList, if_neg (by rw [List.length_cons, List.length_append]; omega), rlist, if_neg (by simp), gotf_num (by omega)]
  simp only
  rw [if_neg (by omega)]
  have := rlists_put ps [] [] h
  rw [List.append_nil, List.nil_append] at this
  rw [this]
theorem rlist_inv {b r : List UInt8} {l : List (List UInt8)} (h : rlist b = (l, .ok r)) : ∃ b0, b = 3 :: b0 ∧ l.length ≤ 1000 ∧ b0 = numB l.length ++ (l.flatten ++ r) ∧ ∀ p ∈ l, IsPart p := by
  cases b with
  | nil => cases h
  | cons c b0 =>
    rw [rlist] at h
    split at h
    · cases h
    rename_i hc
    cases hg : gotf b0 with
    | error e => rw [hg] at h; cases h
    | ok x =>
      obtain ⟨many, b1⟩ := x
      rw [hg] at h
      simp only at h
      split at h
      · cases h
      obtain ⟨ps, h1, h2, h3, h4⟩ := rlists_inv h
      rw [List.nil_append] at h2
      subst h2
      refine ⟨b0, by congr 1; simpa using hc, by omega, ?_, h4⟩
      rw [gotf_inv hg, h1, h3]
theorem readList_inv {b : List UInt8} (h : (readList b).2 = 0) : putList (readList b).1 = (b, 0) ∧ ∃ b0, b = 3 :: b0 := by
  unfold readList at h ⊢
  split at h
  · cases h
  rename_i hb
  rw [if_neg hb]
  generalize hr : rlist b = x at h
  obtain ⟨l, y⟩ := x
  cases y with
  | error e =>
    exfalso
    have h0 : e = 0 := h
    have := rlist_err hr
    omega
  | ok r =>
    cases r with
    | cons c r => cases h
    | nil =>
      simp only
      obtain ⟨b0, rfl, h1, h2, h3⟩ := rlist_inv hr
      rw [List.append_nil] at h2
      refine ⟨?_, b0, rfl⟩
      rw [putList, if_neg (by omega), if_pos (okAll h3 (by rw [h2, List.length_cons, List.length_append] at hb; omega)), ← h2]
theorem specB_len {s : Spec} (hs : sright s = true) : (specB s).length ≤ 100 := by
  have hf := sright_facts hs
  have htag : s.tag.size ≤ 16 := by
    have := hs
    simp only [sright, tagok, Bool.and_eq_true, decide_eq_true_eq] at this
    omega
  have hz : zig s.prio ≤ 4611686018427387904 := by
    have := hs
    simp only [sright, Bool.and_eq_true, decide_eq_true_eq] at this
    unfold zig; split <;> omega
  have h1 := numB_10 (n := s.nodes.toNat) (by omega)
  have h2 := numB_10 (n := s.cores.toNat) (by omega)
  have h3 := numB_10 (n := s.gpus.toNat) (by omega)
  have h4 := numB_10 (n := s.tag.size) (by omega)
  have h5 := numB_10 (n := s.long.toNat) (by omega)
  have h6 := numB_10 (n := zig s.prio) (by omega)
  have h7 := str_len s.tag
  unfold specB
  simp only [List.length_cons, List.length_append]
  omega
end Go.Av

namespace Go.Av
open Go.Proofs
set_option maxRecDepth 10000
set_option linter.unusedSimpArgs false
set_option linter.unusedVariables false

theorem wb_brow (w : Bool) : [wb w].map brow = [[.int .u8 (if w then 1 else 0)]] := by cases w <;> rfl
theorem code_flag (bs : List UInt8) (w : Bool) (H : Heap) (id g : Nat) (hbs : bs.length ≤ 1000000) (hid : H[id]? = some ⟨g, 1, bs.map brow⟩) : AC Try.prog 23 [.sl id g 0 bs.length bs.length, .bool w] H
    (Ret (.sl id (g + 1) 0 (bs.length + 1) (bs.length + 1)) (H.set id ⟨g + 1, 1, (bs ++ [wb w]).map brow⟩)) := by
  have hlt : id < H.length := (List.getElem?_eq_some_iff.1 hid).1
  have htake : (bs.map brow).take bs.length = bs.map brow := List.take_of_length_le (by simp)
  have hF := hid
  refine AC.body (N := 12) [.tmp 4] Try.func23 rfl rfl rfl (Nat.le_of_ble_eq_true rfl) fun B hB => ?_
  repeat (refine aw_seq ?_)
  refine aw_region ?_
  refine ao1 (by decide) (o_assign (v := .nsl) rfl) ?_
  refine ao_nil ?_
  repeat (first | refine then_nrm ?_ | refine aw_seq ?_)
  refine aw_region ?_
  refine ao1 (by decide) (o_move (v := .bool _) rfl) ?_
  refine ao_nil ?_
  repeat (refine then_nrm ?_)
  refine aw_cond rfl (fun hc => ?_) (fun hc => ?_)
  · have hw : w = true := by simpa using hc
    subst hw
    repeat (refine aw_seq ?_)
    refine aw_region ?_
    refine ao1 (by decide) (o_move (v := .sl _ _ _ _ _) rfl) ?_
    refine ao2 (by rintro _ ⟨⟩; decide) (g_lit1 (sz := 1) (v := .int .u8 1) rfl (by decide) (by decide) rfl rfl rfl rfl rfl) ?_
    refine ao2 (by rintro _ ⟨⟩; decide) (w_appendF (bs.length + 1) rfl hF rfl rfl (Src.pl (ys := [[.int .u8 1]]) rfl (by intro r hr; simp at hr; subst hr; rfl)) rfl (by (simp; done)) (by (simp; omega)) (by (simp; omega)) (by (simp; done))) ?_
    refine ao1 (by decide) (o_assign (v := .sl _ _ _ _ _) rfl) ?_
    refine ao_nil ?_
    try dsimp only [List.length_cons, List.length_nil, Nat.reduceAdd, AV.cells, put]
    rw [htake]
    repeat (first | refine then_nrm ?_ | refine then_ret ?_ | refine aw_ret ?_)
    refine e_ret hB (r_tmp rfl .nil) rfl ⟨rfl, by rw [List.map_append, wb_brow]; rfl⟩ (decide_eq_true hlt) (by simp) ?_
    exact HBel.set hB.heap _ _ (fun r hr => bytes_bel0 _ (bs ++ [1]) r (by rw [List.map_append]; exact hr))
  · have hw : w = false := by simpa using hc
    subst hw
    repeat (first | refine then_nrm ?_ | refine aw_seq ?_ | refine aw_skip ?_)
    refine aw_region ?_
    refine ao1 (by decide) (o_move (v := .sl _ _ _ _ _) rfl) ?_
    refine ao2 (by rintro _ ⟨⟩; decide) (g_lit1 (sz := 1) (v := .int .u8 0) rfl (by decide) (by decide) rfl rfl rfl rfl rfl) ?_
    refine ao2 (by rintro _ ⟨⟩; decide) (w_appendF (bs.length + 1) rfl hF rfl rfl (Src.pl (ys := [[.int .u8 0]]) rfl (by intro r hr; simp at hr; subst hr; rfl)) rfl (by (simp; done)) (by (simp; omega)) (by (simp; omega)) (by (simp; done))) ?_
    refine ao1 (by decide) (o_assign (v := .sl _ _ _ _ _) rfl) ?_
    refine ao_nil ?_
    try dsimp only [List.length_cons, List.length_nil, Nat.reduceAdd, AV.cells, put]
    rw [htake]
    repeat (first | refine then_nrm ?_ | refine aw_ret ?_)
    refine e_ret hB (r_tmp rfl .nil) rfl ⟨rfl, by rw [List.map_append, wb_brow]; rfl⟩ (decide_eq_true hlt) (by simp) ?_
    exact HBel.set hB.heap _ _ (fun r hr => bytes_bel0 _ (bs ++ [0]) r (by rw [List.map_append]; exact hr))
theorem code_signed (bs : List UInt8) (p : Int) (hp : -1000 ≤ p ∧ p ≤ 1000) (H : Heap) (id g : Nat) (hbs : bs.length ≤ 1000000) (hid : H[id]? = some ⟨g, 1, bs.map brow⟩) : AC Try.prog 24 [.sl id g 0 bs.length bs.length, .int .i64 p] H
    (Ret (.sl id (g + (numB (zig p)).length) 0 (bs.length + (numB (zig p)).length) (bs.length + (numB (zig p)).length)) (H.set id ⟨g + (numB (zig p)).length, 1, (bs ++ numB (zig p)).map brow⟩)) := by
  have hlt : id < H.length := (List.getElem?_eq_some_iff.1 hid).1
  have hz : zig p < 18446744073709551616 := by unfold zig; split <;> omega
  have c1 := code_number bs (zig p) hz (H ++ []) id g hbs (by rw [List.append_nil]; exact hid)
  rw [List.set_append_left _ _ hlt] at c1
  have hbel : HBel H.length H → HBel H.length (H.set id ⟨g + (numB (zig p)).length, 1, (bs ++ numB (zig p)).map brow⟩) := fun h => HBel.set h _ _ (fun r hr => bytes_bel0 _ _ r hr)
  refine AC.body (N := 19) [.tmp 4] Try.func24 rfl rfl rfl (Nat.le_of_ble_eq_true rfl) fun B hB => ?_
  repeat (refine aw_seq ?_)
  refine aw_region ?_
  refine ao1 (by decide) (o_assign (v := .nsl) rfl) ?_
  refine ao_nil ?_
  repeat (first | refine then_nrm ?_ | refine aw_seq ?_)
  refine aw_region ?_
  refine ao1 (by decide) (o_move (v := .int _ _) rfl) ?_
  refine ao1 (by decide) (o_lt rfl rfl) ?_
  refine ao_nil ?_
  repeat (refine then_nrm ?_)
  refine aw_cond rfl (fun hc => ?_) (fun hc => ?_)
  · have h0 : p < 0 := by simpa using hc
    have e : (zig p : Int) = 0 - 2 * p - 1 := by unfold zig; rw [if_pos h0]; omega
    repeat (refine aw_seq ?_)
    refine aw_region ?_
    refine ao1 (by decide) (o_move (v := .sl _ _ _ _ _) rfl) ?_
    refine ao1 (by decide) (o_move (v := .int _ _) rfl) ?_
    refine ao1 (by decide) (o_neg rfl (wrap64_ok (by omega) (by omega))) ?_
    refine ao1 (by decide) (o_conv_int (r := -p) rfl (by rw [IntKind.wrap_u64]; omega)) ?_
    refine ao1 (by decide) (o_mul (r := -(2 * p)) rfl rfl (by rw [IntKind.wrap_u64]; omega)) ?_
    refine ao1 (by decide) (o_sub (r := (zig p : Int)) rfl rfl (by rw [IntKind.wrap_u64]; omega)) ?_
    refine ao_ret (c1) rfl (by decide) ?_
    refine ao1 (by decide) (o_assign (v := .sl _ _ _ _ _) rfl) ?_
    refine ao_nil ?_
    repeat (first | refine then_nrm ?_ | refine then_ret ?_ | refine aw_ret ?_)
    exact e_ret hB (r_tmp rfl .nil) rfl ⟨rfl, rfl⟩ (decide_eq_true hlt) (by simp) (hbel hB.heap)
  · have h0 : 0 ≤ p := by simp at hc; omega
    have e : (zig p : Int) = 2 * p := by unfold zig; rw [if_neg (by omega)]; omega
    repeat (first | refine then_nrm ?_ | refine aw_seq ?_ | refine aw_skip ?_)
    refine aw_region ?_
    refine ao1 (by decide) (o_move (v := .sl _ _ _ _ _) rfl) ?_
    refine ao1 (by decide) (o_move (v := .int _ _) rfl) ?_
    refine ao1 (by decide) (o_conv_int (r := p) rfl (by rw [IntKind.wrap_u64]; omega)) ?_
    refine ao1 (by decide) (o_mul (r := (zig p : Int)) rfl rfl (by rw [IntKind.wrap_u64]; omega)) ?_
    refine ao_ret (c1) rfl (by decide) ?_
    refine ao1 (by decide) (o_assign (v := .sl _ _ _ _ _) rfl) ?_
    refine ao_nil ?_
    repeat (first | refine then_nrm ?_ | refine aw_ret ?_)
    exact e_ret hB (r_tmp rfl .nil) rfl ⟨rfl, rfl⟩ (decide_eq_true hlt) (by simp) (hbel hB.heap)
end Go.Av

namespace Go.Av
open Go.Proofs
set_option maxRecDepth 10000
set_option linter.unusedSimpArgs false
set_option linter.unusedVariables false

def pre4 (ns : List Nat) : List UInt8 := ns.flatMap numB
theorem pre4_step {ns : List Nat} {k n : Nat} (h : ns[k]? = some n) : pre4 (ns.take (k + 1)) = pre4 (ns.take k) ++ numB n := by
  rw [take_snoc_get h, pre4, List.flatMap_append]
  simp [pre4]
theorem pre4_len : ∀ (ns : List Nat), (∀ n ∈ ns, n < 18446744073709551616) → (pre4 ns).length ≤ 10 * ns.length
  | [], _ => Nat.le_refl _
  | n :: ns, h => by
    have h1 := numB_10 (h n (by simp))
    have h2 := pre4_len ns fun m hm => h m (by simp [hm])
    simp only [pre4, List.flatMap_cons, List.length_append, List.length_cons] at h2 ⊢
    omega
theorem sright_prio {s : Spec} (h : sright s = true) : -1000 ≤ s.prio ∧ s.prio ≤ 1000 ∧ s.tag.size ≤ 16 := by
  simp only [sright, tagok, Bool.and_eq_true, decide_eq_true_eq] at h
  omega
set_option maxHeartbeats 0 in
theorem code_Spec (s : Spec) (H : Heap) : AC Try.prog 8 [.agg (eSpec s)] H (Ret (.tup [.pl ((putSpec s).1.map brow), .int .i64 (putSpec s).2]) H) := by
  refine AC.body (N := 46) [.tmp 2, .tmp 3] Try.func8 rfl rfl rfl (Nat.le_of_ble_eq_true rfl) fun B hB => ?_
  repeat (refine aw_seq ?_)
  refine aw_region ?_
  refine ao2 (by rintro _ ⟨⟩; decide) (o_boxL (sz := 7) (v := .agg _) rfl rfl rfl rfl (by decide) rfl) ?_
  refine ao1 (by decide) (o_assign (v := .nsl) rfl) ?_
  refine ao1 (by decide) (o_assign (v := .int _ _) rfl) ?_
  refine ao_nil ?_
  try dsimp only [List.length_nil, put, AV.cells, List.nil_append]
  repeat (first | refine then_nrm ?_ | refine aw_seq ?_)
  refine aw_region ?_
  refine ao1 (by decide) (w_loadR rfl (lk rfl rfl) rfl rfl rfl) ?_
  refine ao_ret (spec_Right _ _) rfl (by decide) ?_
  refine ao1 (by decide) (o_not rfl) ?_
  refine ao_nil ?_
  repeat (refine then_nrm ?_)
  refine aw_cond rfl (fun hc => ?_) (fun hc => ?_)
  · have hs : sright s = false := by simpa using hc
    rw [show putSpec s = ([], 1) by rw [putSpec, if_pos hs]]
    repeat (refine aw_seq ?_)
    refine aw_region ?_
    refine ao1 (by decide) (o_assign (v := .nsl) rfl) ?_
    refine ao1 (by decide) (o_assign (v := .int _ _) rfl) ?_
    refine ao_nil ?_
    try dsimp only
    repeat (refine then_nrm ?_)
    refine aw_nslpl 2 rfl ?_
    refine aw_ret ?_
    exact e_done hB (r_tmp rfl (r_tmp rfl .nil)) rfl rfl
  have hs : sright s = true := by simpa using hc
  clear hc
  rw [show putSpec s = (specB s, 0) by rw [putSpec, if_neg (by rw [hs]; simp)]]
  obtain ⟨hp1, hp2, htag⟩ := sright_prio hs
  have hf := sright_facts hs
  have hlen := specB_len hs
  repeat (first | refine then_nrm ?_ | refine aw_seq ?_ | refine aw_skip ?_)
  refine aw_region ?_
  refine ao2 (by rintro _ ⟨⟩; decide) (o_buildSlice1L (sz := 1) (v := .int _ _) rfl (by decide) (by decide) rfl rfl rfl rfl rfl) ?_
  refine ao1 (by decide) (o_assign (v := .sl _ _ _ _ _) rfl) ?_
  refine ao_nil ?_
  try dsimp only [List.length_cons, List.length_nil, Nat.reduceAdd, put, AV.cells, List.cons_append, List.nil_append]
  generalize hns : [s.nodes.toNat, s.cores.toNat, s.gpus.toNat, s.tag.size] = ns
  have hn4 : ns.length = 4 := by rw [← hns]; rfl
  have hsm : ∀ n ∈ ns, n < 1000 := by rw [← hns]; intro n hn; simp at hn; omega
  have hrows : [[AV.int .i64 s.nodes], [.int .i64 s.cores], [.int .i64 s.gpus], [.int .i64 (s.tag.size : Int)]] = ns.map fun n : Nat => [AV.int .i64 (n : Int)] := by
    rw [← hns, List.map_cons, List.map_cons, List.map_cons, List.map_cons, List.map_nil, Int.toNat_of_nonneg (by omega), Int.toNat_of_nonneg (by omega), Int.toNat_of_nonneg (by omega)]
  repeat (first | refine then_nrm ?_ | refine aw_seq ?_)
  refine aw_region ?_
  refine ao1 (by decide) (w_fieldAddr rfl (lk rfl rfl) rfl (by decide)) ?_
  refine ao1 (by decide) (w_load1 (v := .int _ _) rfl (lk rfl rfl) rfl rfl rfl) ?_
  refine ao1 (by decide) (w_fieldAddr rfl (lk rfl rfl) rfl (by decide)) ?_
  refine ao1 (by decide) (w_load1 (v := .int _ _) rfl (lk rfl rfl) rfl rfl rfl) ?_
  refine ao1 (by decide) (w_fieldAddr rfl (lk rfl rfl) rfl (by decide)) ?_
  refine ao1 (by decide) (w_load1 (v := .int _ _) rfl (lk rfl rfl) rfl rfl rfl) ?_
  refine ao1 (by decide) (w_fieldAddr rfl (lk rfl rfl) rfl (by decide)) ?_
  refine ao1 (by decide) (w_load1 (v := .str _) rfl (lk rfl rfl) rfl rfl rfl) ?_
  refine ao1 (by decide) (o_lenStr rfl) ?_
  refine ao2 (by rintro _ ⟨⟩; decide) (g_litL (sz := 1) [[.int .i64 s.nodes], [.int .i64 s.cores], [.int .i64 s.gpus], [.int .i64 (s.tag.size : Int)]] rfl (by decide) (by decide) (by decide) rfl rfl (by simp) rfl (by intro r hr; simp at hr; rcases hr with rfl | rfl | rfl | rfl <;> rfl)) ?_
  refine ao1 (by decide) (o_lenp rfl) ?_
  refine ao1 (by decide) (o_move (v := .int _ _) rfl) ?_
  refine ao_nil ?_
  try dsimp only [List.length_cons, List.length_nil, Nat.reduceAdd, put]
  rw [hrows]
  repeat (first | refine then_nrm ?_ | refine aw_block ?_)
  refine aw_loop (G := Nat) (fun k => k ≤ 4) (fun k => [(1, .pt (Lid H.length 0) 0 0 0), (4, .sl (Lid H.length 1) (pre4 (ns.take k)).length 0 (1 + (pre4 (ns.take k)).length) (1 + (pre4 (ns.take k)).length)), (20, .pl (ns.map fun n : Nat => [AV.int .i64 (n : Int)])), (21, .int .i64 4), (22, .int .i64 (k : Int))]) (fun k => H ++ [⟨0, 7, [eSpec s]⟩, ⟨(pre4 (ns.take k)).length, 1, ([1] ++ pre4 (ns.take k)).map brow⟩]) (fun k => 4 - k) 0 (by omega) (by repeat (first | exact Sub.nil | refine Sub.cons (by rfl) ?_)) (.inl rfl) ?_
  intro k hk
  have hpl : (pre4 (ns.take k)).length ≤ 40 := by
    have := pre4_len (ns.take k) fun n hn => by have := hsm n (List.mem_of_mem_take hn); omega
    have h2 : (ns.take k).length ≤ 4 := by rw [List.length_take]; omega
    omega
  repeat (refine aw_seq ?_)
  refine aw_region ?_
  refine ao1 (by decide) (o_lt rfl rfl) ?_
  refine ao_nil ?_
  try dsimp only [List.cons_append, List.nil_append]
  repeat (first | refine then_nrm ?_ | refine aw_seq ?_)
  refine aw_cond rfl (fun hc => ?_) (fun hc => ?_)
  · have hk4 : k < 4 := by simp at hc; omega
    obtain ⟨n, hn, _⟩ := get_in (l := ns) (k := k) (by omega)
    have hnm := List.mem_of_getElem? hn
    have hn1 := hsm n hnm
    have hr : (ns.map fun n : Nat => [AV.int .i64 (n : Int)])[k]? = some [.int .i64 (n : Int)] := map_get (fun n : Nat => [AV.int .i64 (n : Int)]) hn
    have c1 := fun H' id hid => code_number ([1] ++ pre4 (ns.take k)) n (by omega) H' id (pre4 (ns.take k)).length (by simp; omega) hid
    have hstep := pre4_step hn
    rw [show (([1] : List UInt8) ++ pre4 (ns.take k)).length = 1 + (pre4 (ns.take k)).length by simp; omega, List.append_assoc, ← hstep, Nat.add_assoc] at c1
    have hl2 : (pre4 (ns.take k)).length + (numB n).length = (pre4 (ns.take (k + 1))).length := by rw [hstep, List.length_append]
    rw [hl2] at c1
    repeat (first | refine then_nrm ?_ | refine aw_seq ?_ | refine aw_block ?_ | refine aw_skip ?_)
    refine aw_region ?_
    refine ao1 (by decide) (w_indexAddrpN rfl rfl hr rfl) ?_
    refine ao1 (by decide) (o_load1p (v := .int _ _) rfl hr rfl) ?_
    refine ao1 (by decide) (o_assign (v := .int _ _) rfl) ?_
    refine ao_nil ?_
    repeat (refine then_nrm ?_)
    refine aw_region ?_
    refine ao1 (by decide) (o_move (v := .sl _ _ _ _ _) rfl) ?_
    refine ao1 (by decide) (o_move (v := .int _ _) rfl) ?_
    refine ao1 (by decide) (o_conv_int (r := (n : Int)) rfl (u64_wrap _ (by omega))) ?_
    refine ao2 (by rintro _ ⟨⟩; decide) (V2.callo3 (k := 1) (c1 _ (Lid H.length 1) (lk rfl rfl)) rfl rfl) ?_
    refine ao1 (by decide) (o_assign (v := .sl _ _ _ _ _) rfl) ?_
    refine ao_nil ?_
    try dsimp only [put, List.cons_append, List.nil_append, List.set_cons_succ, List.set_cons_zero]
    repeat (first | refine then_nrm ?_ | refine blk_nrm ?_)
    refine aw_region ?_
    refine ao1 (by decide) (o_add (r := ((k + 1 : Nat) : Int)) rfl rfl (wrap64_ok (by omega) (by omega))) ?_
    refine ao1 (by decide) (o_move (v := .int _ _) rfl) ?_
    refine ao_nil ?_
    repeat (refine then_nrm ?_)
    exact ⟨k + 1, by omega, by omega, (by repeat (first | exact Sub.nil | refine Sub.cons (by rfl) ?_)), .inl rfl⟩
  · have hk4 : k = 4 := by simp at hc; omega
    subst hk4
    have htk : ns.take 4 = ns := List.take_of_length_le (by omega)
    rw [htk] at hpl ⊢
    generalize hb0 : [1] ++ pre4 ns = b0
    have hb0l : b0.length = 1 + (pre4 ns).length := by rw [← hb0]; simp; omega
    rw [← hb0l]
    generalize hg0 : (pre4 ns).length = g0 at hpl hb0l
    have hb1l : (b0 ++ s.tag.data.toList).length = b0.length + s.tag.size := by rw [List.length_append, str_len]
    generalize hb2 : b0 ++ s.tag.data.toList ++ [wb s.whole] = b2
    have hb2l : b2.length = (b0 ++ s.tag.data.toList).length + 1 := by rw [← hb2, List.length_append]; rfl
    generalize hb3 : b2 ++ numB s.long.toNat = b3
    have hb3l : b3.length = b2.length + (numB s.long.toNat).length := by rw [← hb3, List.length_append]
    have hlong := numB_10 (n := s.long.toNat) (by omega)
    generalize hb4 : b3 ++ numB (zig s.prio) = b4
    have hb4l : b4.length = b3.length + (numB (zig s.prio)).length := by rw [← hb4, List.length_append]
    have hspec : b4 = specB s := by
      rw [← hb4, ← hb3, ← hb2, ← hb0, ← hns, specB]
      simp [pre4]
    have c2 := fun H' id hid => code_flag (b0 ++ s.tag.data.toList) s.whole H' id (g0 + 1) (by omega) hid
    rw [hb2, ← hb2l] at c2
    have c3 := fun H' id hid => code_number b2 s.long.toNat (by omega) H' id (g0 + 1 + 1) (by omega) hid
    rw [hb3, ← hb3l] at c3
    have c4 := fun H' id hid => code_signed b3 s.prio ⟨hp1, hp2⟩ H' id (g0 + 1 + 1 + (numB s.long.toNat).length) (by omega) hid
    rw [hb4, ← hb4l] at c4
    have hsrc : ∀ (P : Program) (N : Nat) (env : Env) (G : Heap) (x : Operand), aev env x = .str s.tag → Src P N env G x 1 (s.tag.data.toList.map brow) := fun P N env G x hx => Src.str hx
    repeat (first | refine then_nrm ?_ | refine then_brk ?_ | refine blk_hit ?_ | refine aw_seq ?_ | refine aw_exit ?_)
    refine aw_drawR mixed none 0 ?_
    refine aq0 0 rfl (by decide +kernel) (by decide) (fun _ => o_move (v := .sl _ _ _ _ _) rfl) ?_
    refine aqr 1 rfl (by decide +kernel) (by decide) (fun G hG => w_fieldAddr rfl (lk rfl hG) rfl (by decide)) ?_
    refine aqr 2 rfl (by decide +kernel) (by decide) (fun G hG => w_load1 (v := .str _) rfl (lk rfl hG) rfl rfl rfl) ?_
    refine aqr 4 rfl (by decide +kernel) (by decide) (fun G hG => w_fieldAddr rfl (lk rfl hG) rfl (by decide)) ?_
    refine aqr 5 rfl (by decide +kernel) (by decide) (fun G hG => w_load1 (v := .bool _) rfl (lk rfl hG) rfl rfl rfl) ?_
    refine aqs 3 rfl (by decide +kernel) (by exact fun _ => ⟨_, rfl, rfl⟩) (by rintro _ ⟨⟩; decide) (g_appB (bs := b0) (cs := s.tag.data.toList) (en := brow) rfl rfl (by rw [← hb0]; rfl) (hsrc _ _ _ _ _ rfl) rfl (by rw [str_len]; omega) (by rw [str_len]; omega)) ?_
    refine aqs 6 rfl (by decide +kernel) (by exact fun _ => ⟨_, rfl, rfl⟩) (by rintro _ ⟨⟩; decide) (V2.callo3 (k := 1) (c2 _ (Lid H.length 1) (lk rfl rfl)) rfl rfl) ?_
    refine aq0 7 rfl (by decide +kernel) (by decide) (fun _ => o_assign (v := .sl _ _ _ _ _) rfl) ?_
    refine aa_done (by decide +kernel) (by exact fun _ => ⟨_, rfl, rfl⟩) ?_
    try dsimp only [Nat.reduceAdd, put, List.set_cons_succ, List.set_cons_zero]
    repeat (first | refine then_nrm ?_ | refine aw_seq ?_)
    refine aw_drawR mixed none 0 ?_
    refine aq0 0 rfl (by decide +kernel) (by decide) (fun _ => o_move (v := .sl _ _ _ _ _) rfl) ?_
    refine aqr 1 rfl (by decide +kernel) (by decide) (fun G hG => w_fieldAddr rfl (lk rfl hG) rfl (by decide)) ?_
    refine aqr 2 rfl (by decide +kernel) (by decide) (fun G hG => w_load1 (v := .int _ _) rfl (lk rfl hG) rfl rfl rfl) ?_
    refine aq0 3 rfl (by decide +kernel) (by decide) (fun _ => o_conv_int (r := (s.long.toNat : Int)) rfl (by rw [IntKind.wrap_u64]; omega)) ?_
    refine aqr 5 rfl (by decide +kernel) (by decide) (fun G hG => w_fieldAddr rfl (lk rfl hG) rfl (by decide)) ?_
    refine aqr 6 rfl (by decide +kernel) (by decide) (fun G hG => w_load1 (v := .int _ _) rfl (lk rfl hG) rfl rfl rfl) ?_
    refine aqs 4 rfl (by decide +kernel) (by exact fun _ => ⟨_, rfl, rfl⟩) (by rintro _ ⟨⟩; decide) (V2.callo3 (k := 1) (c3 _ (Lid H.length 1) (lk rfl rfl)) rfl rfl) ?_
    refine aqs 7 rfl (by decide +kernel) (by exact fun _ => ⟨_, rfl, rfl⟩) (by rintro _ ⟨⟩; decide) (V2.callo3 (k := 1) (c4 _ (Lid H.length 1) (lk rfl rfl)) rfl rfl) ?_
    refine aq0 8 rfl (by decide +kernel) (by decide) (fun _ => o_assign (v := .sl _ _ _ _ _) rfl) ?_
    refine aq0 9 rfl (by decide +kernel) (by decide) (fun _ => o_assign (v := .int _ _) rfl) ?_
    refine aa_done (by decide +kernel) (by exact fun _ => ⟨_, rfl, rfl⟩) ?_
    try dsimp only [Nat.reduceAdd, put, List.set_cons_succ, List.set_cons_zero]
    repeat (refine then_nrm ?_)
    rw [hspec]
    refine aw_freezeL (ys := (specB s).map brow) 2 rfl rfl rfl rfl (by rw [List.drop_zero, List.take_of_length_le (by simp)]) (by simp) (bytes_bel0 0 _) ?_
    refine aw_ret ?_
    exact e_done hB (r_tmp rfl (r_tmp rfl .nil)) rfl rfl
end Go.Av

namespace Go.Av
open Go.Proofs
set_option maxRecDepth 10000
set_option linter.unusedSimpArgs false
set_option linter.unusedVariables false

theorem specbuf_bel (n : Nat) (s : Spec) (bs : List UInt8) (g : Nat) : ∀ o ∈ [AObj.mk 0 7 [eSpec s], AObj.mk g 1 (bs.map brow)], ∀ r ∈ o.rows, AV.bels n r = true := by
  intro o ho r hr
  simp only [List.mem_cons, List.not_mem_nil, or_false] at ho
  rcases ho with rfl | rfl
  · simp only [List.mem_singleton] at hr; subst hr; rfl
  · exact bytes_bel0 _ _ r hr
set_option maxHeartbeats 0 in
theorem ref08_Spec (s : Spec) (H : Heap) (ht : s.tag.size ≤ 9223372036854775807) : AC Try.prog 12 [.agg (eSpec s)] H (Ret (.tup [.pl ((putSpec s).1.map brow), .int .i64 (putSpec s).2]) H) := by
  refine AC.body (N := 72) [.tmp 2, .tmp 3] Try.func12 rfl rfl rfl (Nat.le_of_ble_eq_true rfl) fun B hB => ?_
  repeat (refine aw_seq ?_)
  refine aw_region ?_
  refine ao2 (by rintro _ ⟨⟩; decide) (o_boxL (sz := 7) (v := .agg _) rfl rfl rfl rfl (by decide) rfl) ?_
  refine ao1 (by decide) (o_assign (v := .nsl) rfl) ?_
  refine ao1 (by decide) (o_assign (v := .int _ _) rfl) ?_
  refine ao_nil ?_
  try dsimp only [List.length_nil, put, AV.cells, List.nil_append]
  repeat (first | refine then_nrm ?_ | refine aw_seq ?_)
  refine aw_region ?_
  refine ao1 (by decide) (w_loadR rfl (lk rfl rfl) rfl rfl rfl) ?_
  refine ao_ret (ref07_Right _ _ (by assumption)) rfl (by decide) ?_
  refine ao1 (by decide) (o_not rfl) ?_
  refine ao_nil ?_
  repeat (refine then_nrm ?_)
  refine aw_cond rfl (fun hc => ?_) (fun hc => ?_)
  · have hs : sright s = false := by simpa using hc
    rw [show putSpec s = ([], 1) by rw [putSpec, if_pos hs]]
    repeat (refine aw_seq ?_)
    refine aw_region ?_
    refine ao1 (by decide) (o_assign (v := .nsl) rfl) ?_
    refine ao1 (by decide) (o_assign (v := .int _ _) rfl) ?_
    refine ao_nil ?_
    try dsimp only
    repeat (refine then_nrm ?_)
    refine aw_nslpl 2 rfl ?_
    refine aw_ret ?_
    exact e_done hB (r_tmp rfl (r_tmp rfl .nil)) rfl rfl
  have hs : sright s = true := by simpa using hc
  clear hc
  rw [show putSpec s = (specB s, 0) by rw [putSpec, if_neg (by rw [hs]; simp)]]
  obtain ⟨hp1, hp2, htag⟩ := sright_prio hs
  have hf := sright_facts hs
  have hlen := specB_len hs
  have hz : zig s.prio < 18446744073709551616 := by unfold zig; split <;> omega
  have k0 := numB_10 (n := s.nodes.toNat) (by omega)
  have k1 := numB_10 (n := s.cores.toNat) (by omega)
  have k2 := numB_10 (n := s.gpus.toNat) (by omega)
  have k3 := numB_10 (n := s.tag.size) (by omega)
  have k4 := numB_10 (n := s.long.toNat) (by omega)
  have k5 := numB_10 hz
  have c0 := fun H => ref08_num s.nodes.toNat (by omega) H
  have c1 := fun H => ref08_num s.cores.toNat (by omega) H
  have c2 := fun H => ref08_num s.gpus.toNat (by omega) H
  have c3 := fun H => ref08_num s.tag.size (by omega) H
  have c4 := fun H => ref08_num s.long.toNat (by omega) H
  have c5 := fun H => ref08_num (zig s.prio) hz H
  repeat (first | refine then_nrm ?_ | refine aw_seq ?_ | refine aw_skip ?_)
  refine aw_region ?_
  refine ao2 (by rintro _ ⟨⟩; decide) (o_buildSlice1L (sz := 1) (v := .int _ _) rfl (by decide) (by decide) rfl rfl rfl rfl rfl) ?_
  refine ao1 (by decide) (o_assign (v := .sl _ _ _ _ _) rfl) ?_
  refine ao_nil ?_
  try dsimp only [List.length_cons, List.length_nil, Nat.reduceAdd, put, AV.cells, List.cons_append, List.nil_append]
  obtain ⟨b0, hb0⟩ : ∃ b0 : List UInt8, [1] = b0 := ⟨_, rfl⟩
  have hl0 : b0.length = 1 := by rw [← hb0]; rfl
  have he0 : [[AV.int .u8 1]] = b0.map brow := by rw [← hb0]; rfl
  rw [he0]
  rw [show AV.sl (Lid H.length 1) 0 0 1 1 = AV.sl (Lid H.length 1) 0 0 b0.length b0.length by rw [hl0]]
  repeat (first | refine then_nrm ?_ | refine aw_seq ?_)
  refine aw_region ?_
  refine ao1 (by decide) (o_move (v := .sl _ _ _ _ _) rfl) ?_
  refine ao1 (by decide) (w_fieldAddr rfl (lk rfl rfl) rfl (by decide)) ?_
  refine ao1 (by decide) (w_load1 (v := .int _ _) rfl (lk rfl rfl) rfl rfl rfl) ?_
  refine ao1 (by decide) (o_conv_int (r := (s.nodes.toNat : Int)) rfl (by rw [IntKind.wrap_u64]; omega)) ?_
  refine ao_ret (c0 _) rfl (by decide) ?_
  refine ao2 (by rintro _ ⟨⟩; decide) (g_appB (bs := b0) (cs := numB (s.nodes.toNat)) (en := brow) rfl rfl rfl (Src.pl rfl (bytes_len1 _)) rfl (by omega) (by omega)) ?_
  refine ao1 (by decide) (o_assign (v := .sl _ _ _ _ _) rfl) ?_
  refine ao_nil ?_
  try dsimp only [Nat.reduceAdd, put, List.set_cons_succ, List.set_cons_zero]
  generalize hb1 : b0 ++ numB (s.nodes.toNat) = b1
  have hl1 : b1.length = b0.length + (numB (s.nodes.toNat)).length := by rw [← hb1, List.length_append]
  repeat (first | refine then_nrm ?_ | refine aw_seq ?_)
  refine aw_region ?_
  refine ao1 (by decide) (o_move (v := .sl _ _ _ _ _) rfl) ?_
  refine ao1 (by decide) (w_fieldAddr rfl (lk rfl rfl) rfl (by decide)) ?_
  refine ao1 (by decide) (w_load1 (v := .int _ _) rfl (lk rfl rfl) rfl rfl rfl) ?_
  refine ao1 (by decide) (o_conv_int (r := (s.cores.toNat : Int)) rfl (by rw [IntKind.wrap_u64]; omega)) ?_
  refine ao_ret (c1 _) rfl (by decide) ?_
  refine ao2 (by rintro _ ⟨⟩; decide) (g_appB (bs := b1) (cs := numB (s.cores.toNat)) (en := brow) rfl rfl rfl (Src.pl rfl (bytes_len1 _)) rfl (by omega) (by omega)) ?_
  refine ao1 (by decide) (o_assign (v := .sl _ _ _ _ _) rfl) ?_
  refine ao_nil ?_
  try dsimp only [Nat.reduceAdd, put, List.set_cons_succ, List.set_cons_zero]
  generalize hb2 : b1 ++ numB (s.cores.toNat) = b2
  have hl2 : b2.length = b1.length + (numB (s.cores.toNat)).length := by rw [← hb2, List.length_append]
  repeat (first | refine then_nrm ?_ | refine aw_seq ?_)
  refine aw_region ?_
  refine ao1 (by decide) (o_move (v := .sl _ _ _ _ _) rfl) ?_
  refine ao1 (by decide) (w_fieldAddr rfl (lk rfl rfl) rfl (by decide)) ?_
  refine ao1 (by decide) (w_load1 (v := .int _ _) rfl (lk rfl rfl) rfl rfl rfl) ?_
  refine ao1 (by decide) (o_conv_int (r := (s.gpus.toNat : Int)) rfl (by rw [IntKind.wrap_u64]; omega)) ?_
  refine ao_ret (c2 _) rfl (by decide) ?_
  refine ao2 (by rintro _ ⟨⟩; decide) (g_appB (bs := b2) (cs := numB (s.gpus.toNat)) (en := brow) rfl rfl rfl (Src.pl rfl (bytes_len1 _)) rfl (by omega) (by omega)) ?_
  refine ao1 (by decide) (o_assign (v := .sl _ _ _ _ _) rfl) ?_
  refine ao_nil ?_
  try dsimp only [Nat.reduceAdd, put, List.set_cons_succ, List.set_cons_zero]
  generalize hb3 : b2 ++ numB (s.gpus.toNat) = b3
  have hl3 : b3.length = b2.length + (numB (s.gpus.toNat)).length := by rw [← hb3, List.length_append]
  repeat (first | refine then_nrm ?_ | refine aw_seq ?_)
  refine aw_region ?_
  refine ao1 (by decide) (o_move (v := .sl _ _ _ _ _) rfl) ?_
  refine ao1 (by decide) (w_fieldAddr rfl (lk rfl rfl) rfl (by decide)) ?_
  refine ao1 (by decide) (w_load1 (v := .str _) rfl (lk rfl rfl) rfl rfl rfl) ?_
  refine ao1 (by decide) (o_lenStr rfl) ?_
  refine ao1 (by decide) (o_conv_int (r := (s.tag.size : Int)) rfl (by rw [IntKind.wrap_u64]; omega)) ?_
  refine ao_ret (c3 _) rfl (by decide) ?_
  refine ao2 (by rintro _ ⟨⟩; decide) (g_appB (bs := b3) (cs := numB (s.tag.size)) (en := brow) rfl rfl rfl (Src.pl rfl (bytes_len1 _)) rfl (by omega) (by omega)) ?_
  refine ao1 (by decide) (o_assign (v := .sl _ _ _ _ _) rfl) ?_
  refine ao_nil ?_
  try dsimp only [Nat.reduceAdd, put, List.set_cons_succ, List.set_cons_zero]
  generalize hb4 : b3 ++ numB (s.tag.size) = b4
  have hl4 : b4.length = b3.length + (numB (s.tag.size)).length := by rw [← hb4, List.length_append]
  repeat (first | refine then_nrm ?_ | refine aw_seq ?_)
  refine aw_region ?_
  refine ao1 (by decide) (o_move (v := .sl _ _ _ _ _) rfl) ?_
  refine ao1 (by decide) (w_fieldAddr rfl (lk rfl rfl) rfl (by decide)) ?_
  refine ao1 (by decide) (w_load1 (v := .str _) rfl (lk rfl rfl) rfl rfl rfl) ?_
  refine ao2 (by rintro _ ⟨⟩; decide) (o_strBytes rfl) ?_
  refine ao2 (by rintro _ ⟨⟩; decide) (g_appB (bs := b4) (cs := s.tag.data.toList) (en := brow) rfl rfl rfl (Src.pl rfl (bytes_len1 _)) rfl (by rw [str_len]; omega) (by rw [str_len]; omega)) ?_
  refine ao1 (by decide) (o_assign (v := .sl _ _ _ _ _) rfl) ?_
  refine ao_nil ?_
  try dsimp only [Nat.reduceAdd, put, List.set_cons_succ, List.set_cons_zero]
  generalize hb5 : b4 ++ s.tag.data.toList = b5
  have hl5 : b5.length = b4.length + s.tag.size := by rw [← hb5, List.length_append, str_len]
  obtain ⟨b6, hb6⟩ : ∃ b6 : List UInt8, b5 ++ [wb s.whole] = b6 := ⟨_, rfl⟩
  have hl6 : b6.length = b5.length + 1 := by rw [← hb6, List.length_append]; rfl
  repeat (first | refine then_nrm ?_ | refine aw_seq ?_)
  refine aw_region ?_
  refine ao1 (by decide) (w_fieldAddr rfl (lk rfl rfl) rfl (by decide)) ?_
  refine ao1 (by decide) (w_load1 (v := .bool _) rfl (lk rfl rfl) rfl rfl rfl) ?_
  refine ao_nil ?_
  try dsimp only [Nat.reduceAdd]
  repeat (refine then_nrm ?_)
  refine aw_joinQ ([(1, .pt (Lid H.length 0) 0 0 0), (4, .sl (Lid H.length 1) 6 0 b6.length b6.length)]) (H ++ [⟨0, 7, [eSpec s]⟩, ⟨6, 1, b6.map brow⟩]) ?_ ?_
  · repeat (fail)
    refine aw_cond rfl (fun hc => ?_) (fun hc => ?_)
    · have hw : s.whole = true := by simpa using hc
      rw [hw] at hb6
      subst hb6
      refine aw_region ?_
      refine ao1 (by decide) (o_move (v := .sl _ _ _ _ _) rfl) ?_
      refine ao2 (by rintro _ ⟨⟩; decide) (g_lit1 (sz := 1) (v := .int .u8 1) rfl (by decide) (by decide) rfl rfl rfl rfl rfl) ?_
      refine ao2 (by rintro _ ⟨⟩; decide) (g_appB (bs := b5) (cs := [1]) (en := brow) rfl rfl rfl (Src.pl rfl (bytes_len1 [_])) rfl (by (simp; omega)) (by (simp; omega))) ?_
      refine ao1 (by decide) (o_assign (v := .sl _ _ _ _ _) rfl) ?_
      refine ao_nil ?_
      try dsimp only [Nat.reduceAdd, AV.cells, put, List.set_cons_succ, List.set_cons_zero]
      exact join_nrm (by repeat (first | exact Sub.nil | refine Sub.cons (by rfl) ?_)) (.inl rfl)
    · have hw : s.whole = false := by simpa using hc
      rw [hw] at hb6
      subst hb6
      refine aw_region ?_
      refine ao1 (by decide) (o_move (v := .sl _ _ _ _ _) rfl) ?_
      refine ao2 (by rintro _ ⟨⟩; decide) (g_lit1 (sz := 1) (v := .int .u8 0) rfl (by decide) (by decide) rfl rfl rfl rfl rfl) ?_
      refine ao2 (by rintro _ ⟨⟩; decide) (g_appB (bs := b5) (cs := [0]) (en := brow) rfl rfl rfl (Src.pl rfl (bytes_len1 [_])) rfl (by (simp; omega)) (by (simp; omega))) ?_
      refine ao1 (by decide) (o_assign (v := .sl _ _ _ _ _) rfl) ?_
      refine ao_nil ?_
      try dsimp only [Nat.reduceAdd, AV.cells, put, List.set_cons_succ, List.set_cons_zero]
      exact join_nrm (by repeat (first | exact Sub.nil | refine Sub.cons (by rfl) ?_)) (.inl rfl)
  repeat (first | refine then_nrm ?_ | refine aw_seq ?_)
  refine aw_region ?_
  refine ao1 (by decide) (o_move (v := .sl _ _ _ _ _) rfl) ?_
  refine ao1 (by decide) (w_fieldAddr rfl (lk rfl rfl) rfl (by decide)) ?_
  refine ao1 (by decide) (w_load1 (v := .int _ _) rfl (lk rfl rfl) rfl rfl rfl) ?_
  refine ao1 (by decide) (o_conv_int (r := (s.long.toNat : Int)) rfl (by rw [IntKind.wrap_u64]; omega)) ?_
  refine ao_ret (c4 _) rfl (by decide) ?_
  refine ao2 (by rintro _ ⟨⟩; decide) (g_appB (bs := b6) (cs := numB (s.long.toNat)) (en := brow) rfl rfl rfl (Src.pl rfl (bytes_len1 _)) rfl (by omega) (by omega)) ?_
  refine ao1 (by decide) (o_assign (v := .sl _ _ _ _ _) rfl) ?_
  refine ao_nil ?_
  try dsimp only [Nat.reduceAdd, put, List.set_cons_succ, List.set_cons_zero]
  generalize hb7 : b6 ++ numB (s.long.toNat) = b7
  have hl7 : b7.length = b6.length + (numB (s.long.toNat)).length := by rw [← hb7, List.length_append]
  have hspec : b7 ++ numB (zig s.prio) = specB s := by
    rw [← hb7, ← hb6, ← hb5, ← hb4, ← hb3, ← hb2, ← hb1, ← hb0, specB]
    simp
  repeat (first | refine then_nrm ?_ | refine aw_seq ?_)
  refine aw_region ?_
  refine ao1 (by decide) (w_fieldAddr rfl (lk rfl rfl) rfl (by decide)) ?_
  refine ao1 (by decide) (w_load1 (v := .int _ _) rfl (lk rfl rfl) rfl rfl rfl) ?_
  refine ao1 (by decide) (o_lt rfl rfl) ?_
  refine ao_nil ?_
  try dsimp only [Nat.reduceAdd]
  repeat (refine then_nrm ?_)
  refine aw_cond rfl (fun hc => ?_) (fun hc => ?_)
  · have h0 : s.prio < 0 := by simpa using hc
    have e : (zig s.prio : Int) = 0 - 2 * s.prio - 1 := by unfold zig; rw [if_pos h0]; omega
    repeat (refine aw_seq ?_)
    refine aw_region ?_
    refine ao1 (by decide) (o_move (v := .sl _ _ _ _ _) rfl) ?_
    refine ao1 (by decide) (w_fieldAddr rfl (lk rfl rfl) rfl (by decide)) ?_
    refine ao1 (by decide) (w_load1 (v := .int _ _) rfl (lk rfl rfl) rfl rfl rfl) ?_
    refine ao1 (by decide) (o_mul (r := 2 * s.prio) rfl rfl (wrap64_ok (by omega) (by omega))) ?_
    refine ao1 (by decide) (o_sub (r := 0 - 2 * s.prio) rfl rfl (wrap64_ok (by omega) (by omega))) ?_
    refine ao1 (by decide) (o_sub (r := (zig s.prio : Int)) rfl rfl (by rw [e]; exact wrap64_ok (by omega) (by omega))) ?_
    refine ao1 (by decide) (o_conv_int (r := (zig s.prio : Int)) rfl (by rw [IntKind.wrap_u64]; omega)) ?_
    refine ao_ret (c5 _) rfl (by decide) ?_
    refine ao2 (by rintro _ ⟨⟩; decide) (g_appB (bs := b7) (cs := numB (zig s.prio)) (en := brow) rfl rfl rfl (Src.pl rfl (bytes_len1 _)) rfl (by omega) (by omega)) ?_
    refine ao1 (by decide) (o_assign (v := .sl _ _ _ _ _) rfl) ?_
    refine ao1 (by decide) (o_assign (v := .int _ _) rfl) ?_
    refine ao_nil ?_
    try dsimp only [Nat.reduceAdd, put, List.set_cons_succ, List.set_cons_zero]
    rw [hspec]
    repeat (refine then_nrm ?_)
    refine aw_freezeL (ys := (specB s).map brow) 2 rfl rfl rfl rfl (by rw [List.drop_zero, List.take_of_length_le (by simp)]) (by simp) (bytes_bel0 0 _) ?_
    refine aw_ret ?_
    exact e_done hB (r_tmp rfl (r_tmp rfl .nil)) rfl rfl
  · have h0 : 0 ≤ s.prio := by simp at hc; omega
    have e : (zig s.prio : Int) = 2 * s.prio := by unfold zig; rw [if_neg (by omega)]; omega
    repeat (first | refine then_nrm ?_ | refine aw_seq ?_ | refine aw_skip ?_)
    refine aw_region ?_
    refine ao1 (by decide) (o_move (v := .sl _ _ _ _ _) rfl) ?_
    refine ao1 (by decide) (w_fieldAddr rfl (lk rfl rfl) rfl (by decide)) ?_
    refine ao1 (by decide) (w_load1 (v := .int _ _) rfl (lk rfl rfl) rfl rfl rfl) ?_
    refine ao1 (by decide) (o_mul (r := (zig s.prio : Int)) rfl rfl (by rw [e]; exact wrap64_ok (by omega) (by omega))) ?_
    refine ao1 (by decide) (o_conv_int (r := (zig s.prio : Int)) rfl (by rw [IntKind.wrap_u64]; omega)) ?_
    refine ao_ret (c5 _) rfl (by decide) ?_
    refine ao2 (by rintro _ ⟨⟩; decide) (g_appB (bs := b7) (cs := numB (zig s.prio)) (en := brow) rfl rfl rfl (Src.pl rfl (bytes_len1 _)) rfl (by omega) (by omega)) ?_
    refine ao1 (by decide) (o_assign (v := .sl _ _ _ _ _) rfl) ?_
    refine ao1 (by decide) (o_assign (v := .int _ _) rfl) ?_
    refine ao_nil ?_
    try dsimp only [Nat.reduceAdd, put, List.set_cons_succ, List.set_cons_zero]
    rw [hspec]
    repeat (refine then_nrm ?_)
    refine aw_freezeL (ys := (specB s).map brow) 2 rfl rfl rfl rfl (by rw [List.drop_zero, List.take_of_length_le (by simp)]) (by simp) (bytes_bel0 0 _) ?_
    refine aw_ret ?_
    exact e_done hB (r_tmp rfl (r_tmp rfl .nil)) rfl rfl
end Go.Av

namespace Go.Av
open Go.Proofs
set_option maxRecDepth 10000
set_option linter.unusedSimpArgs false
set_option linter.unusedVariables false

theorem o_slicepT {P : Program} {N : Nat} {env : Env} {H : Heap} {ty t e : TypeId} {x : Operand} {hi : Option Operand} {xs ys : List (List AV)} {h sz : Nat} {agg : Bool} [hu : SlI P t e] [TyI P e agg sz] (hx : aev env x = .pl xs) (hh : Bd env hi xs.length h) (h1 : h ≤ xs.length) (hsz : ∀ r ∈ xs, r.length = sz) (hy : xs.take h = ys) : V1 P N (.slice t x none hi none) ty env H (.pl ys) := by
  have := o_slicep (P := P) (N := N) (env := env) (H := H) (ty := ty) (t := t) (e := e) (agg := agg) (l := 0) hx .none hh (Nat.zero_le _) h1 hsz
  rw [List.drop_zero, Nat.sub_zero, hy] at this
  exact this
/-- What a reader tells, as1 a value. -/
def rdV {α : Type} (f : α → AV) (x : Except Int (α × List UInt8)) : Except Int (AV × List UInt8) := match x with
  | .ok (v, r) => .ok (f v, r)
  | .error e => .error e
set_option maxHeartbeats 0 in
theorem code_text (b0 : List UInt8) (id g : Nat) (H : Heap) (h : id < H.length) : AC Try.prog 55 [.pt id g 0 0] (Hs H id g b0) (rdS H id g (rdV AV.str (textS b0))) := by
  have cn := code_num b0 id g
  refine AC.body (N := 35) [.tmp 2] Try.func55 rfl rfl rfl (Nat.le_of_ble_eq_true rfl) fun B hB => ?_
  repeat (refine aw_seq ?_)
  refine aw_region ?_
  refine ao1 (by decide) (o_assign (v := .str _) rfl) ?_
  refine ao_nil ?_
  cases hg : gotf b0 with
  | error e0 =>
    rw [show got 0 0 b0 = .error e0 from hg] at cn
    have hres : rdV AV.str (textS b0) = .error e0 := by rw [textS, pb_err hg]; rfl
    repeat (first | refine then_nrm ?_ | refine aw_seq ?_)
    refine aw_region ?_
    refine ao1 (by decide) (o_move (v := .pt _ _ _ _) rfl) ?_
    refine ao_rd rfl (by decide) h cn (by rintro v r e; cases e) (by rintro e r e1; cases e1; (repeat (refine then_pan ?_)); exact e_rdX hB hres)
  | ok x =>
  obtain ⟨n, r⟩ := x
  rw [show got 0 0 b0 = .ok (n, r) from hg] at cn
  have hm := (got_rest (b := b0) hg).2
  repeat (first | refine then_nrm ?_ | refine aw_seq ?_)
  refine aw_region ?_
  refine ao1 (by decide) (o_move (v := .pt _ _ _ _) rfl) ?_
  refine ao_rd rfl (by decide) h cn (fun v r' e => ?_) (by rintro e r e1; cases e1); cases e
  refine ao1 (by decide) (o_assign (v := .int _ _) rfl) ?_
  refine ao_nil ?_
  by_cases h16 : 16 < n
  · have hres : rdV AV.str (textS b0) = .error 3 := by rw [textS, pb_ok hg, if_pos h16]; rfl
    repeat (first | refine then_nrm ?_ | refine aw_seq ?_)
    refine aw_region ?_
    refine ao1 (by decide) (o_move (v := .int _ _) rfl) ?_
    refine ao1 (by decide) (o_le rfl rfl) ?_
    refine ao_need (b := false) (by refine congrArg (fun x => [AV.bool x, AV.int .i64 3]) ?_; simp; omega) (by decide) code_need (fun hb => (by cases hb)) (fun _ => (by (repeat (refine then_pan ?_)); exact e_rdX hB hres))
  repeat (first | refine then_nrm ?_ | refine aw_seq ?_)
  refine aw_region ?_
  refine ao1 (by decide) (o_move (v := .int _ _) rfl) ?_
  refine ao1 (by decide) (o_le rfl rfl) ?_
  refine ao_need (b := true) (by refine congrArg (fun x => [AV.bool x, AV.int .i64 3]) ?_; simp; omega) (by decide) code_need (fun _ => ?_) (fun hb => (by cases hb))
  refine ao_nil ?_
  have hF : (Hs H id g r)[id]? = some ⟨g, 1, [[.pl (r.map brow)]]⟩ := hs_get h
  by_cases hr : r.length < n
  · have hres : rdV AV.str (textS b0) = .error 2 := by rw [textS, pb_ok hg, if_neg h16, takeP, if_pos hr]; rfl
    repeat (first | refine then_nrm ?_ | refine aw_seq ?_)
    refine aw_region ?_
    refine ao1 (by decide) (o_move (v := .int _ _) rfl) ?_
    refine ao1 (by decide) (o_move (v := .pt _ _ _ _) rfl) ?_
    refine ao1 (by decide) (w_nilCheck rfl (lkF hF) rfl) ?_
    refine ao1 (by decide) (w_fieldAddr rfl (lkF hF) rfl (by decide)) ?_
    refine ao1 (by decide) (w_load1 (v := .pl _) rfl (lkF hF) rfl rfl rfl) ?_
    refine ao1 (by decide) (o_lenp rfl) ?_
    refine ao1 (by decide) (o_le rfl rfl) ?_
    refine ao_need (b := false) (by refine congrArg (fun x => [AV.bool x, AV.int .i64 2]) ?_; simp; omega) (by decide) code_need (fun hb => (by cases hb)) (fun _ => (by (repeat (refine then_pan ?_)); exact e_rdX hB hres))
  repeat (first | refine then_nrm ?_ | refine aw_seq ?_)
  refine aw_region ?_
  refine ao1 (by decide) (o_move (v := .int _ _) rfl) ?_
  refine ao1 (by decide) (o_move (v := .pt _ _ _ _) rfl) ?_
  refine ao1 (by decide) (w_nilCheck rfl (lkF hF) rfl) ?_
  refine ao1 (by decide) (w_fieldAddr rfl (lkF hF) rfl (by decide)) ?_
  refine ao1 (by decide) (w_load1 (v := .pl _) rfl (lkF hF) rfl rfl rfl) ?_
  refine ao1 (by decide) (o_lenp rfl) ?_
  refine ao1 (by decide) (o_le rfl rfl) ?_
  refine ao_need (b := true) (by refine congrArg (fun x => [AV.bool x, AV.int .i64 2]) ?_; simp; omega) (by decide) code_need (fun _ => ?_) (fun hb => (by cases hb))
  refine ao_nil ?_
  try dsimp only [Nat.reduceAdd]
  have hres : rdV AV.str (textS b0) = .ok (.str ⟨(r.take n).toArray⟩, r.drop n) := by rw [textS, pb_ok hg, if_neg h16, takeP, if_neg hr]; rfl
  repeat (first | refine then_nrm ?_ | refine aw_seq ?_)
  refine aw_region ?_
  refine ao1 (by decide) (o_move (v := .pt _ _ _ _) rfl) ?_
  refine ao1 (by decide) (w_nilCheck rfl (lkF hF) rfl) ?_
  refine ao1 (by decide) (w_fieldAddr rfl (lkF hF) rfl (by decide)) ?_
  refine ao1 (by decide) (w_load1 (v := .pl _) rfl (lkF hF) rfl rfl rfl) ?_
  refine ao1 (by decide) (o_move (v := .int _ _) rfl) ?_
  refine ao1 (by decide) (o_slicepT (sz := 1) (h := n) (ys := (r.take n).map brow) rfl (.some rfl rfl) (by simp; omega) (bytes_len1 _) (List.map_take).symm) ?_
  refine ao1 (by decide) (o_bytesStr (bs := r.take n) rfl) ?_
  refine ao1 (by decide) (o_assign (v := .str _) rfl) ?_
  refine ao_nil ?_
  try dsimp only [Nat.reduceAdd]
  have hset : (Hs H id g r).set id ⟨g, 1, [[.pl ((r.drop n).map brow)]]⟩ = Hs H id g (r.drop n) := hs_hs H id g r (r.drop n)
  repeat (first | refine then_nrm ?_ | refine aw_seq ?_)
  refine aw_region ?_
  refine ao1 (by decide) (o_move (v := .pt _ _ _ _) rfl) ?_
  refine ao1 (by decide) (o_move (v := .pt _ _ _ _) rfl) ?_
  refine ao1 (by decide) (w_nilCheck rfl (lkF hF) rfl) ?_
  refine ao1 (by decide) (w_fieldAddr rfl (lkF hF) rfl (by decide)) ?_
  refine ao1 (by decide) (w_load1 (v := .pl _) rfl (lkF hF) rfl rfl rfl) ?_
  refine ao1 (by decide) (o_move (v := .int _ _) rfl) ?_
  refine ao1 (by decide) (o_slicepF (sz := 1) (l := n) (ys := (r.drop n).map brow) rfl (.some rfl rfl) (by simp; omega) (bytes_len1 _) (List.map_drop).symm) ?_
  refine ao1 (by decide) (w_nilCheck rfl (lkF hF) rfl) ?_
  refine ao1 (by decide) (w_fieldAddr rfl (lkF hF) rfl (by decide)) ?_
  refine ao2 (by rintro _ ⟨⟩) (w_storeFP (sz := 1) (v := .pl _) (r' := [.pl ((r.drop n).map brow)]) rfl hF rfl rfl rfl rfl rfl (Nat.le_refl 1) rfl) ?_
  refine ao_nil ?_
  try dsimp only [put, Nat.reduceAdd, List.set_cons_zero]
  rw [hset]
  repeat (first | refine then_nrm ?_ | refine aw_seq ?_)
  refine aw_region ?_
  refine ao1 (by decide) (o_move (v := .str _) rfl) ?_
  refine ao1 (by decide) (o_assign (v := .str _) rfl) ?_
  refine ao_nil ?_
  repeat (first | refine then_nrm ?_ | refine aw_ret ?_)
  exact e_rd hB (r_tmp rfl .nil) rfl hres rfl
def signS : Rd Int := pb gotf fun n => needP true (zag n)
set_option maxHeartbeats 0 in
theorem code_rsigned (b0 : List UInt8) (id g : Nat) (H : Heap) (h : id < H.length) : AC Try.prog 57 [.pt id g 0 0] (Hs H id g b0) (rdS H id g (rdV (AV.int .i64) (signS b0))) := by
  have cn := code_num b0 id g
  refine AC.body (N := 15) [.tmp 2] Try.func57 rfl rfl rfl (Nat.le_of_ble_eq_true rfl) fun B hB => ?_
  repeat (refine aw_seq ?_)
  refine aw_region ?_
  refine ao1 (by decide) (o_assign (v := .int _ _) rfl) ?_
  refine ao_nil ?_
  cases hg : gotf b0 with
  | error e0 =>
    rw [show got 0 0 b0 = .error e0 from hg] at cn
    have hres : rdV (AV.int .i64) (signS b0) = .error e0 := by rw [signS, pb_err hg]; rfl
    repeat (first | refine then_nrm ?_ | refine aw_seq ?_)
    refine aw_region ?_
    refine ao1 (by decide) (o_move (v := .pt _ _ _ _) rfl) ?_
    refine ao_rd rfl (by decide) h cn (by rintro v r e; cases e) (by rintro e r e1; cases e1; (repeat (refine then_pan ?_)); exact e_rdX hB hres)
  | ok x =>
  obtain ⟨n, r⟩ := x
  rw [show got 0 0 b0 = .ok (n, r) from hg] at cn
  have hm := (got_rest (b := b0) hg).2
  have hres : rdV (AV.int .i64) (signS b0) = .ok (.int .i64 (zag n), r) := by rw [signS, pb_ok hg]; rfl
  repeat (first | refine then_nrm ?_ | refine aw_seq ?_)
  refine aw_region ?_
  refine ao1 (by decide) (o_move (v := .pt _ _ _ _) rfl) ?_
  refine ao_rd rfl (by decide) h cn (fun v r' e => ?_) (by rintro e r e1; cases e1); cases e
  refine ao1 (by decide) (o_assign (v := .int _ _) rfl) ?_
  refine ao_nil ?_
  have hmod : ((n : Int)).tmod 2 = ((n % 2 : Nat) : Int) := by rw [Int.tmod_eq_emod_of_nonneg (by omega)]; omega
  have hdiv : ((n : Int)).tdiv 2 = ((n / 2 : Nat) : Int) := by rw [Int.tdiv_eq_ediv_of_nonneg (by omega)]; omega
  repeat (first | refine then_nrm ?_ | refine aw_seq ?_)
  refine aw_region ?_
  refine ao1 (by decide) (o_move (v := .int _ _) rfl) ?_
  refine ao1 (by decide) (o_rem (r := ((n % 2 : Nat) : Int)) rfl rfl (by decide) hmod) ?_
  refine ao1 (by decide) (o_eq rfl rfl) ?_
  refine ao_nil ?_
  repeat (refine then_nrm ?_)
  refine aw_cond rfl (fun hc => ?_) (fun hc => ?_)
  · have ho : n % 2 = 1 := by simp at hc; omega
    have hz : zag n = -(((n / 2 : Nat) : Int) + 1) := by unfold zag; rw [if_pos ho]; omega
    repeat (refine aw_seq ?_)
    refine aw_region ?_
    refine ao1 (by decide) (o_move (v := .int _ _) rfl) ?_
    refine ao1 (by decide) (o_quo (r := ((n / 2 : Nat) : Int)) rfl rfl (by decide) (by rw [hdiv]; exact wrap64_ok (by omega) (by omega))) ?_
    refine ao1 (by decide) (o_add (r := ((n / 2 : Nat) : Int) + 1) rfl rfl (wrap64_ok (by omega) (by omega))) ?_
    refine ao1 (by decide) (o_neg (r := zag n) rfl (by rw [hz]; exact wrap64_ok (by omega) (by omega))) ?_
    refine ao1 (by decide) (o_assign (v := .int _ _) rfl) ?_
    refine ao_nil ?_
    repeat (first | refine then_nrm ?_ | refine then_ret ?_ | refine aw_ret ?_)
    exact e_rd hB (r_tmp rfl .nil) rfl hres rfl
  · have ho : ¬ n % 2 = 1 := by simp at hc; omega
    have hz : zag n = ((n / 2 : Nat) : Int) := by unfold zag; rw [if_neg ho]
    rw [hz] at hres
    repeat (first | refine then_nrm ?_ | refine aw_seq ?_ | refine aw_skip ?_)
    refine aw_region ?_
    refine ao1 (by decide) (o_move (v := .int _ _) rfl) ?_
    refine ao1 (by decide) (o_quo (r := ((n / 2 : Nat) : Int)) rfl rfl (by decide) (by rw [hdiv]; exact wrap64_ok (by omega) (by omega))) ?_
    refine ao1 (by decide) (o_assign (v := .int _ _) rfl) ?_
    refine ao_nil ?_
    repeat (first | refine then_nrm ?_ | refine aw_ret ?_)
    exact e_rd hB (r_tmp rfl .nil) rfl hres rfl
end Go.Av

namespace Go.Av
open Go.Proofs
set_option maxRecDepth 10000
set_option linter.unusedSimpArgs false
set_option linter.unusedVariables false

def specV (s : Spec) : AV := .agg (eSpec s)
set_option maxHeartbeats 0 in
theorem code_rspec (b : List UInt8) (id g : Nat) (H : Heap) (h : id < H.length) : AC Try.prog 37 [.pt id g 0 0] (Hs H id g b) (rdS H id g (rdV specV (rspec b))) := by
  refine AC.body (N := 37) [.cell 2 23] Try.func37 rfl rfl rfl (Nat.le_of_ble_eq_true rfl) fun B hB => ?_
  repeat (refine aw_seq ?_)
  refine aw_region ?_
  refine ao2 (by rintro _ ⟨⟩; decide) (o_allocL (sz := 7) rfl (by decide) rfl) ?_
  refine ao_nil ?_
  try dsimp only [put, List.length_nil, List.nil_append]
  cases b with
  | nil =>
    repeat (first | refine then_nrm ?_ | refine aw_seq ?_)
    refine aw_region ?_
    refine ao1 (by decide) (o_move (v := .pt _ _ _ _) rfl) ?_
    refine ao_rd rfl (by decide) h (code_kind [] 1 id g) (by rintro v r e; cases e) (by rintro e r e1; cases e1; (repeat (refine then_pan ?_)); exact e_rdX hB rfl)
  | cons c b0 =>
  by_cases hk : c ≠ 1
  · have hk' : ¬ (c.toNat : Int) = 1 := fun e => hk (UInt8.toNat_inj.1 (by show c.toNat = 1; omega))
    have ck := code_kind (c :: b0) 1 id g
    rw [kindS, if_neg hk'] at ck
    have hres : rdV specV (rspec (c :: b0)) = .error 3 := by rw [rspec, pb_ok (v := c) (r := b0) rfl, if_pos hk]; rfl
    repeat (first | refine then_nrm ?_ | refine aw_seq ?_)
    refine aw_region ?_
    refine ao1 (by decide) (o_move (v := .pt _ _ _ _) rfl) ?_
    refine ao_rd rfl (by decide) h ck (by rintro v r e; cases e) (by rintro e r e1; cases e1; (repeat (refine then_pan ?_)); exact e_rdX hB hres)
  have hk' : (c.toNat : Int) = 1 := by have : c = 1 := by simpa using hk
                                       subst this; rfl
  have ck := code_kind (c :: b0) 1 id g
  rw [kindS, if_pos hk'] at ck
  have q0 : rspec (c :: b0) = rsp1 b0 := by rw [rspec, pb_ok (v := c) (r := b0) rfl, if_neg hk]
  repeat (first | refine then_nrm ?_ | refine aw_seq ?_)
  refine aw_region ?_
  refine ao1 (by decide) (o_move (v := .pt _ _ _ _) rfl) ?_
  refine ao_rd rfl (by decide) h ck (fun v r' e => ?_) (by rintro e r e1; cases e1); cases e
  refine ao_nil ?_
  repeat (first | refine then_nrm ?_ | refine aw_seq ?_)
  refine aw_region ?_
  refine ao2 (by rintro _ ⟨⟩; decide) (o_allocL (sz := 7) rfl (by decide) rfl) ?_
  refine ao_nil ?_
  try dsimp only [put, List.length_cons, List.length_nil, Nat.reduceAdd, List.cons_append, List.nil_append]
  simp only [hs_len]
  have cn := code_num b0 id g
  cases hg : gotf b0 with
  | error e0 =>
    rw [show got 0 0 b0 = .error e0 from hg] at cn
    have hres : rdV specV (rspec (c :: b0)) = .error e0 := by rw [q0, rsp1, pb_err hg]; rfl
    repeat (first | refine then_nrm ?_ | refine aw_seq ?_)
    refine aw_region ?_
    refine ao1 (by decide) (o_move (v := .pt _ _ _ _) rfl) ?_
    refine ao_rd rfl (by decide) h cn (by rintro v r e; cases e) (by rintro e r e1; cases e1; (repeat (refine then_pan ?_)); exact e_rdX hB hres)
  | ok x =>
  obtain ⟨n, b1⟩ := x
  rw [show got 0 0 b0 = .ok (n, b1) from hg] at cn
  have q1 : rspec (c :: b0) = (pb gotf fun k => pb gotf fun u => pb textS fun t => rsp5 n k u t) b1 := by rw [q0, rsp1, pb_ok hg]
  have hmn := (got_rest (b := b0) hg).2
  clear hg
  repeat (first | refine then_nrm ?_ | refine aw_seq ?_)
  refine aw_region ?_
  refine ao1 (by decide) (o_move (v := .pt _ _ _ _) rfl) ?_
  refine ao_rd rfl (by decide) h cn (fun v r' e => ?_) (by rintro e r e1; cases e1); cases e
  refine ao1 (by decide) (w_fieldAddr rfl (lk (hs_len _ _ _ _) rfl) rfl (by decide)) ?_
  refine ao2 (by rintro _ ⟨⟩) (w_storeP (sz := 1) (v := .int _ _) (r' := [_, _, _, _, _, _, _]) rfl (hs_len _ _ _ _) rfl rfl rfl rfl rfl rfl (Nat.le_of_ble_eq_true rfl) rfl) ?_
  refine ao_nil ?_
  try dsimp only [put, Nat.reduceAdd, List.set_cons_zero, List.set_cons_succ]
  clear cn
  have cn := code_num b1 id g
  cases hg : gotf b1 with
  | error e0 =>
    rw [show got 0 0 b1 = .error e0 from hg] at cn
    have hres : rdV specV (rspec (c :: b0)) = .error e0 := by rw [q1, pb_err hg]; rfl
    repeat (first | refine then_nrm ?_ | refine aw_seq ?_)
    refine aw_region ?_
    refine ao1 (by decide) (o_move (v := .pt _ _ _ _) rfl) ?_
    refine ao_rd rfl (by decide) h cn (by rintro v r e; cases e) (by rintro e r e1; cases e1; (repeat (refine then_pan ?_)); exact e_rdX hB hres)
  | ok x =>
  obtain ⟨k, b2⟩ := x
  rw [show got 0 0 b1 = .ok (k, b2) from hg] at cn
  have q2 : rspec (c :: b0) = (pb gotf fun u => pb textS fun t => rsp5 n k u t) b2 := by rw [q1, pb_ok hg]
  have hmk := (got_rest (b := b1) hg).2
  clear hg
  repeat (first | refine then_nrm ?_ | refine aw_seq ?_)
  refine aw_region ?_
  refine ao1 (by decide) (o_move (v := .pt _ _ _ _) rfl) ?_
  refine ao_rd rfl (by decide) h cn (fun v r' e => ?_) (by rintro e r e1; cases e1); cases e
  refine ao1 (by decide) (w_fieldAddr rfl (lk (hs_len _ _ _ _) rfl) rfl (by decide)) ?_
  refine ao2 (by rintro _ ⟨⟩) (w_storeP (sz := 1) (v := .int _ _) (r' := [_, _, _, _, _, _, _]) rfl (hs_len _ _ _ _) rfl rfl rfl rfl rfl rfl (Nat.le_of_ble_eq_true rfl) rfl) ?_
  refine ao_nil ?_
  try dsimp only [put, Nat.reduceAdd, List.set_cons_zero, List.set_cons_succ]
  clear cn
  have cn := code_num b2 id g
  cases hg : gotf b2 with
  | error e0 =>
    rw [show got 0 0 b2 = .error e0 from hg] at cn
    have hres : rdV specV (rspec (c :: b0)) = .error e0 := by rw [q2, pb_err hg]; rfl
    repeat (first | refine then_nrm ?_ | refine aw_seq ?_)
    refine aw_region ?_
    refine ao1 (by decide) (o_move (v := .pt _ _ _ _) rfl) ?_
    refine ao_rd rfl (by decide) h cn (by rintro v r e; cases e) (by rintro e r e1; cases e1; (repeat (refine then_pan ?_)); exact e_rdX hB hres)
  | ok x =>
  obtain ⟨u, b3⟩ := x
  rw [show got 0 0 b2 = .ok (u, b3) from hg] at cn
  have q3 : rspec (c :: b0) = (pb textS fun t => rsp5 n k u t) b3 := by rw [q2, pb_ok hg]
  have hmu := (got_rest (b := b2) hg).2
  clear hg
  repeat (first | refine then_nrm ?_ | refine aw_seq ?_)
  refine aw_region ?_
  refine ao1 (by decide) (o_move (v := .pt _ _ _ _) rfl) ?_
  refine ao_rd rfl (by decide) h cn (fun v r' e => ?_) (by rintro e r e1; cases e1); cases e
  refine ao1 (by decide) (w_fieldAddr rfl (lk (hs_len _ _ _ _) rfl) rfl (by decide)) ?_
  refine ao2 (by rintro _ ⟨⟩) (w_storeP (sz := 1) (v := .int _ _) (r' := [_, _, _, _, _, _, _]) rfl (hs_len _ _ _ _) rfl rfl rfl rfl rfl rfl (Nat.le_of_ble_eq_true rfl) rfl) ?_
  refine ao_nil ?_
  try dsimp only [put, Nat.reduceAdd, List.set_cons_zero, List.set_cons_succ]
  clear cn
  have ct := code_text b3 id g
  cases hg : textS b3 with
  | error e0 =>
    rw [hg] at ct
    have hres : rdV specV (rspec (c :: b0)) = .error e0 := by rw [q3, pb_err hg]; rfl
    repeat (first | refine then_nrm ?_ | refine aw_seq ?_)
    refine aw_region ?_
    refine ao1 (by decide) (o_move (v := .pt _ _ _ _) rfl) ?_
    refine ao_rd rfl (by decide) h ct (by rintro v r e; cases e) (by rintro e r e1; cases e1; (repeat (refine then_pan ?_)); exact e_rdX hB hres)
  | ok x =>
  obtain ⟨t, b4⟩ := x
  rw [hg] at ct
  have q4 : rspec (c :: b0) = rsp5 n k u t b4 := by rw [q3, pb_ok hg]
  clear hg
  repeat (first | refine then_nrm ?_ | refine aw_seq ?_)
  refine aw_region ?_
  refine ao1 (by decide) (o_move (v := .pt _ _ _ _) rfl) ?_
  refine ao_rd rfl (by decide) h ct (fun v r' e => ?_) (by rintro e r e1; cases e1); cases e
  refine ao1 (by decide) (w_fieldAddr rfl (lk (hs_len _ _ _ _) rfl) rfl (by decide)) ?_
  refine ao2 (by rintro _ ⟨⟩) (w_storeP (sz := 1) (v := .str _) (r' := [_, _, _, _, _, _, _]) rfl (hs_len _ _ _ _) rfl rfl rfl rfl rfl rfl (Nat.le_of_ble_eq_true rfl) rfl) ?_
  refine ao_nil ?_
  try dsimp only [put, Nat.reduceAdd, List.set_cons_zero, List.set_cons_succ]
  clear ct
  cases b4 with
  | nil =>
    have hres : rdV specV (rspec (c :: b0)) = .error 2 := by rw [q4]; rfl
    repeat (first | refine then_nrm ?_ | refine aw_seq ?_)
    refine aw_region ?_
    refine ao1 (by decide) (o_move (v := .pt _ _ _ _) rfl) ?_
    refine ao_rd rfl (by decide) h (code_nextS [] id g) (by rintro v r e; cases e) (by rintro e r e1; cases e1; (repeat (refine then_pan ?_)); exact e_rdX hB hres)
  | cons w b5 =>
  repeat (first | refine then_nrm ?_ | refine aw_seq ?_)
  refine aw_region ?_
  refine ao1 (by decide) (o_move (v := .pt _ _ _ _) rfl) ?_
  refine ao_rd rfl (by decide) h (code_nextS (w :: b5) id g) (fun v r' e => ?_) (by rintro e r e1; cases e1); cases e
  refine ao1 (by decide) (o_assign (v := .int _ _) rfl) ?_
  refine ao_nil ?_
  by_cases hw : 1 < w.toNat
  · have hres : rdV specV (rspec (c :: b0)) = .error 3 := by rw [q4, rsp5, pb_ok (v := w) (r := b5) rfl, if_pos hw]; rfl
    repeat (first | refine then_nrm ?_ | refine aw_seq ?_)
    refine aw_region ?_
    refine ao1 (by decide) (o_move (v := .int _ _) rfl) ?_
    refine ao1 (by decide) (o_le rfl rfl) ?_
    refine ao_need (b := false) (by refine congrArg (fun x => [AV.bool x, AV.int .i64 3]) ?_; simp; omega) (by decide) code_need (fun hb => (by cases hb)) (fun _ => (by (repeat (refine then_pan ?_)); exact e_rdX hB hres))
  have q5 : rspec (c :: b0) = rsp6 n k u t (w.toNat == 1) b5 := by rw [q4, rsp5, pb_ok (v := w) (r := b5) rfl, if_neg hw]
  repeat (first | refine then_nrm ?_ | refine aw_seq ?_)
  refine aw_region ?_
  refine ao1 (by decide) (o_move (v := .int _ _) rfl) ?_
  refine ao1 (by decide) (o_le rfl rfl) ?_
  refine ao_need (b := true) (by refine congrArg (fun x => [AV.bool x, AV.int .i64 3]) ?_; simp; omega) (by decide) code_need (fun _ => ?_) (fun hb => (by cases hb))
  refine ao_nil ?_
  repeat (first | refine then_nrm ?_ | refine aw_seq ?_)
  refine aw_region ?_
  refine ao1 (by decide) (o_move (v := .int _ _) rfl) ?_
  refine ao1 (by decide) (o_eq rfl rfl) ?_
  refine ao1 (by decide) (w_fieldAddr rfl (lk (hs_len _ _ _ _) rfl) rfl (by decide)) ?_
  refine ao2 (by rintro _ ⟨⟩) (w_storeP (sz := 1) (v := .bool _) (r' := [_, _, _, _, _, _, _]) rfl (hs_len _ _ _ _) rfl rfl rfl rfl rfl rfl (Nat.le_of_ble_eq_true rfl) rfl) ?_
  refine ao_nil ?_
  try dsimp only [put, Nat.reduceAdd, List.set_cons_zero, List.set_cons_succ]
  rw [show ((w.toNat : Int) == 1) = (w.toNat == 1) by rw [Bool.eq_iff_iff]; simp; omega]
  have cn := code_num b5 id g
  cases hg : gotf b5 with
  | error e0 =>
    rw [show got 0 0 b5 = .error e0 from hg] at cn
    have hres : rdV specV (rspec (c :: b0)) = .error e0 := by rw [q5, rsp6, pb_err hg]; rfl
    repeat (first | refine then_nrm ?_ | refine aw_seq ?_)
    refine aw_region ?_
    refine ao1 (by decide) (o_move (v := .pt _ _ _ _) rfl) ?_
    refine ao_rd rfl (by decide) h cn (by rintro v r e; cases e) (by rintro e r e1; cases e1; (repeat (refine then_pan ?_)); exact e_rdX hB hres)
  | ok x =>
  obtain ⟨l, b6⟩ := x
  rw [show got 0 0 b5 = .ok (l, b6) from hg] at cn
  have q6 : rspec (c :: b0) = (pb gotf fun p => needP (sright ⟨n, k, u, t, w.toNat == 1, l, zag p⟩) ⟨n, k, u, t, w.toNat == 1, l, zag p⟩) b6 := by rw [q5, rsp6, pb_ok hg]
  have hml := (got_rest (b := b5) hg).2
  clear hg
  repeat (first | refine then_nrm ?_ | refine aw_seq ?_)
  refine aw_region ?_
  refine ao1 (by decide) (o_move (v := .pt _ _ _ _) rfl) ?_
  refine ao_rd rfl (by decide) h cn (fun v r' e => ?_) (by rintro e r e1; cases e1); cases e
  refine ao1 (by decide) (w_fieldAddr rfl (lk (hs_len _ _ _ _) rfl) rfl (by decide)) ?_
  refine ao2 (by rintro _ ⟨⟩) (w_storeP (sz := 1) (v := .int _ _) (r' := [_, _, _, _, _, _, _]) rfl (hs_len _ _ _ _) rfl rfl rfl rfl rfl rfl (Nat.le_of_ble_eq_true rfl) rfl) ?_
  refine ao_nil ?_
  try dsimp only [put, Nat.reduceAdd, List.set_cons_zero, List.set_cons_succ]
  clear cn
  have cs := code_rsigned b6 id g
  cases hg : gotf b6 with
  | error e0 =>
    rw [show signS b6 = .error e0 by rw [signS, pb_err hg]] at cs
    have hres : rdV specV (rspec (c :: b0)) = .error e0 := by rw [q6, pb_err hg]; rfl
    repeat (first | refine then_nrm ?_ | refine aw_seq ?_)
    refine aw_region ?_
    refine ao1 (by decide) (o_move (v := .pt _ _ _ _) rfl) ?_
    refine ao_rd rfl (by decide) h cs (by rintro v r e; cases e) (by rintro e r e1; cases e1; (repeat (refine then_pan ?_)); exact e_rdX hB hres)
  | ok x =>
  obtain ⟨p, b7⟩ := x
  rw [show signS b6 = .ok (zag p, b7) by rw [signS, pb_ok hg]; rfl] at cs
  have q7 : rspec (c :: b0) = needP (sright ⟨n, k, u, t, w.toNat == 1, l, zag p⟩) ⟨n, k, u, t, w.toNat == 1, l, zag p⟩ b7 := by rw [q6, pb_ok hg]
  clear hg
  repeat (first | refine then_nrm ?_ | refine aw_seq ?_)
  refine aw_region ?_
  refine ao1 (by decide) (o_move (v := .pt _ _ _ _) rfl) ?_
  refine ao_rd rfl (by decide) h cs (fun v r' e => ?_) (by rintro e r e1; cases e1); cases e
  refine ao1 (by decide) (w_fieldAddr rfl (lk (hs_len _ _ _ _) rfl) rfl (by decide)) ?_
  refine ao2 (by rintro _ ⟨⟩) (w_storeP (sz := 1) (v := .int _ _) (r' := [_, _, _, _, _, _, _]) rfl (hs_len _ _ _ _) rfl rfl rfl rfl rfl rfl (Nat.le_of_ble_eq_true rfl) rfl) ?_
  refine ao_nil ?_
  try dsimp only [put, Nat.reduceAdd, List.set_cons_zero, List.set_cons_succ]
  clear cs
  generalize hz : zag p = z at q7
  have cr := fun H => spec_Right ⟨n, k, u, t, w.toNat == 1, l, z⟩ H
  cases hs : sright ⟨n, k, u, t, w.toNat == 1, l, z⟩ with
  | false =>
    rw [hs] at cr q7
    have hres : rdV specV (rspec (c :: b0)) = .error 3 := by rw [q7]; rfl
    repeat (first | refine then_nrm ?_ | refine aw_seq ?_)
    refine aw_region ?_
    refine ao1 (by decide) (w_loadR rfl (lk (hs_len _ _ _ _) rfl) rfl rfl rfl) ?_
    refine ao_ret (cr _) rfl (by decide) ?_
    refine ao_need (b := false) rfl (by decide) code_need (fun hb => (by cases hb)) (fun _ => (by (repeat (refine then_pan ?_)); exact e_rdX hB hres))
  | true =>
    rw [hs] at cr q7
    have hres : rdV specV (rspec (c :: b0)) = .ok (specV ⟨n, k, u, t, w.toNat == 1, l, z⟩, b7) := by rw [q7]; rfl
    repeat (first | refine then_nrm ?_ | refine aw_seq ?_)
    refine aw_region ?_
    refine ao1 (by decide) (w_loadR rfl (lk (hs_len _ _ _ _) rfl) rfl rfl rfl) ?_
    refine ao_ret (cr _) rfl (by decide) ?_
    refine ao_need (b := true) rfl (by decide) code_need (fun _ => ?_) (fun hb => (by cases hb))
    refine ao_nil ?_
    repeat (first | refine then_nrm ?_ | refine aw_seq ?_)
    refine aw_region ?_
    refine ao1 (by decide) (w_loadR rfl (lk (hs_len _ _ _ _) rfl) rfl rfl rfl) ?_
    refine ao2 (by rintro _ ⟨⟩) (w_storeW (sz := 7) rfl (hs_len _ _ _ _) rfl rfl rfl rfl rfl rfl (Nat.le_of_ble_eq_true rfl)) ?_
    refine ao_nil ?_
    try dsimp only [put, List.set_cons_zero]
    repeat (first | refine then_nrm ?_ | refine aw_ret ?_)
    exact e_rd hB (r_cellR rfl (lk (hs_len _ _ _ _) rfl) rfl rfl rfl .nil) rfl hres rfl
end Go.Av

namespace Go.Av
open Go.Proofs
set_option maxRecDepth 10000
set_option linter.unusedSimpArgs false
set_option linter.unusedVariables false

def leftS {α : Type} (x : Except Int (α × List UInt8)) : Except Int (List UInt8) := match x with
  | .ok (_, r) => .ok r
  | .error e => .error e
theorem hbel_app {H L : Heap} (h : HBel H.length H) (hL : ∀ o ∈ L, ∀ r ∈ o.rows, AV.bels (H ++ L).length r = true) : HBel (H ++ L).length (H ++ L) := by
  intro x hx r hr
  rcases List.mem_append.1 hx with h1 | h1
  · exact AV.bels_mono (by rw [List.length_append]; omega) r (h x h1 r hr)
  · exact hL x h1 r hr
theorem espec_bel (n : Nat) (s : Spec) : AV.bels n (eSpec s) = true := rfl
theorem two7_bel (n : Nat) (s t : Spec) : ∀ o ∈ [AObj.mk 0 7 [eSpec s], AObj.mk 0 7 [eSpec t]], ∀ r ∈ o.rows, AV.bels n r = true := by
  intro o ho r hr
  simp only [List.mem_cons, List.not_mem_nil, or_false] at ho
  rcases ho with rfl | rfl <;> (simp only [List.mem_singleton] at hr; subst hr; rfl)
theorem readSpec_1 (b : List UInt8) (H : Heap) (lid gl : Nat) (x s : Spec) (hlid : H[lid]? = some ⟨gl, 7, [eSpec x]⟩) (hl : ∀ s' r, rspec b = .ok (s', r) → s' = s) :
    AC Try.prog 36 [.pt (H.length + 1) 0 0 0, .pt lid gl 0 0] (H ++ [⟨0, 1, [[.int .i64 0]]⟩, ⟨0, 1, [[.pl (b.map brow)]]⟩]) (rdC H (H.set lid ⟨gl, 7, [eSpec s]⟩) (leftS (rspec b))) := by
  have hlt : lid < H.length := (List.getElem?_eq_some_iff.1 hlid).1
  have hid : H.length + 1 < (H ++ [AObj.mk 0 1 [[.int .i64 0]], AObj.mk 0 1 [[.pl (b.map brow)]]]).length := by simp
  have cs := code_rspec b (H.length + 1) 0
  suffices h : AC Try.prog 36 [.pt (H.length + 1) 0 0 0, .pt lid gl 0 0] (Hs (H ++ [⟨0, 1, [[.int .i64 0]]⟩, ⟨0, 1, [[.pl (b.map brow)]]⟩]) (H.length + 1) 0 b) (rdC H (H.set lid ⟨gl, 7, [eSpec s]⟩) (leftS (rspec b))) by
    rwa [hs_two] at h
  cases hr : rspec b with
  | error e =>
    rw [hr] at cs
    refine AC.body (N := 5) [] Try.func36 rfl rfl rfl (Nat.le_of_ble_eq_true rfl) fun B hB => ?_
    refine aw_region ?_
    refine ao1 (by decide) (o_move (v := .pt _ _ _ _) rfl) ?_
    refine ao_rd rfl (by decide) hid cs (by rintro v r e; cases e) (by rintro e r e1; cases e1; (repeat (fail)); exact e_pan hB ⟨rfl, r, hs_two _ _ _ _⟩ rfl (by rw [hs_len, hs_len]) (by have := hs_bel hB.heap (H.length + 1) 0 r; rwa [hs_hs] at this))
  | ok y =>
    obtain ⟨s', r⟩ := y
    rw [hr] at cs
    obtain rfl := hl s' r hr
    refine AC.body (N := 5) [] Try.func36 rfl rfl rfl (Nat.le_of_ble_eq_true rfl) fun B hB => ?_
    have hF : (Hs (H ++ [⟨0, 1, [[.int .i64 0]]⟩, ⟨0, 1, [[.pl (b.map brow)]]⟩]) (H.length + 1) 0 r)[lid]? = some ⟨gl, 7, [eSpec x]⟩ := by
      rw [hs_two, List.getElem?_append_left hlt]; exact hlid
    refine aw_region ?_
    refine ao1 (by decide) (o_move (v := .pt _ _ _ _) rfl) ?_
    refine ao_rd rfl (by decide) hid cs (fun v r' e => ?_) (by rintro e r e1; cases e1); cases e
    refine ao2 (by rintro _ ⟨⟩) (w_storeFP (sz := 7) (v := .agg (eSpec s')) (r' := eSpec s') rfl hF rfl rfl rfl rfl rfl (Nat.le_refl 7) rfl) ?_
    refine ao_nil ?_
    try dsimp only [put, List.set_cons_zero]
    refine e_ret (vs := []) hB .nil rfl ⟨rfl, ?_⟩ rfl (by rw [List.length_set, hs_len, hs_len]) ?_
    · rw [hs_two]; exact List.set_append_left _ _ hlt
    · have h1 := hs_bel hB.heap (H.length + 1) 0 r
      rw [hs_hs] at h1
      exact HBel.set h1 _ _ (by intro r hr; simp only [List.map_cons, List.map_nil, List.set_cons_zero, List.mem_singleton] at hr; subst hr; rfl)
set_option maxHeartbeats 0 in
theorem code_ReadSpec (b : List UInt8) (H : Heap) : AC Try.prog 17 [.pl (b.map brow)] H (Ret (.tup [.agg (eSpec (readSpec b).1), .int .i64 (readSpec b).2]) H) := by
  refine AC.body (N := 14) [.cell 2 23, .tmp 3] Try.func17 rfl rfl rfl (Nat.le_of_ble_eq_true rfl) fun B hB => ?_
  repeat (refine aw_seq ?_)
  refine aw_region ?_
  refine ao2 (by rintro _ ⟨⟩; decide) (o_allocL (sz := 7) rfl (by decide) rfl) ?_
  refine ao1 (by decide) (o_assign (v := .int _ _) rfl) ?_
  refine ao_nil ?_
  try dsimp only [List.length_nil, put, List.nil_append]
  repeat (first | refine then_nrm ?_ | refine aw_seq ?_)
  refine aw_region ?_
  refine ao2 (by rintro _ ⟨⟩; decide) (o_allocL (sz := 7) rfl (by decide) rfl) ?_
  refine ao_nil ?_
  try dsimp only [put, List.length_cons, List.length_nil, Nat.reduceAdd, List.cons_append, List.nil_append]
  by_cases hb : 65536 < b.length
  · rw [show readSpec b = (spec0, 4) by rw [readSpec, if_pos hb]]
    repeat (first | refine then_nrm ?_ | refine aw_seq ?_)
    refine aw_region ?_
    refine ao1 (by decide) (o_move (v := .pl _) rfl) ?_
    refine ao1 (by decide) (o_makeFunc (vs := []) (us := [_]) rfl rfl) ?_
    refine ao_ret (code_wholeL _ b _ hb) rfl (by decide) ?_
    refine ao1 (by decide) (o_assign (v := .int _ _) rfl) ?_
    refine ao_nil ?_
    try dsimp only
    repeat (first | refine then_nrm ?_ | refine aw_seq ?_)
    refine aw_region ?_
    refine ao1 (by decide) (o_move (v := .int _ _) rfl) ?_
    refine ao1 (by decide) (o_ne rfl rfl) ?_
    refine ao_nil ?_
    repeat (refine then_nrm ?_)
    refine aw_cond rfl (fun hc => ?_) (fun hc => ?_)
    · repeat (refine aw_seq ?_)
      refine aw_region ?_
      refine ao1 (by decide) (V1.up (o_build (cs := [.int _ _, .int _ _, .int _ _, .str _, .bool _, .int _ _, .int _ _]) rfl)) ?_
      refine ao1 (by decide) (o_move (v := .int _ _) rfl) ?_
      refine ao2 (by rintro _ ⟨⟩) (w_storeW (sz := 7) rfl rfl rfl rfl rfl rfl rfl rfl (Nat.le_of_ble_eq_true rfl)) ?_
      refine ao1 (by decide) (o_assign (v := .int _ _) rfl) ?_
      refine ao_nil ?_
      try dsimp only [AV.up, put, List.set_cons_zero]
      repeat (first | refine then_nrm ?_ | refine then_ret ?_ | refine aw_ret ?_)
      exact e_done hB (r_cellR rfl (lk rfl rfl) rfl rfl rfl (r_tmp rfl .nil)) rfl rfl
    · simp at hc
  have hbl := fun s t => hbel_app hB.heap (two7_bel (H ++ [AObj.mk 0 7 [eSpec s], AObj.mk 0 7 [eSpec t]]).length s t)
  have cw : ∀ s : Spec, (∀ s' r, rspec b = .ok (s', r) → s' = s) → AC Try.prog 35 [.pl (b.map brow), .fn (.func 36) [] [.pt (Lid H.length 1) 0 0 0]] (H ++ [AObj.mk 0 7 [eSpec spec0], AObj.mk 0 7 [eSpec spec0]]) (Ret (.int .i64 (wholeE (leftS (rspec b)))) (wholeH (H ++ [AObj.mk 0 7 [eSpec spec0], AObj.mk 0 7 [eSpec spec0]]) (H ++ [AObj.mk 0 7 [eSpec spec0], AObj.mk 0 7 [eSpec s]]) (leftS (rspec b)))) := fun s hs => by
    have h1 := readSpec_1 b (H ++ [AObj.mk 0 7 [eSpec spec0], AObj.mk 0 7 [eSpec spec0]]) (Lid H.length 1) 0 spec0 s (lk rfl rfl) hs
    rw [st rfl] at h1
    exact code_whole _ b _ _ _ _ (by omega) (by simp) (by have := hbl spec0 s; rwa [show (H ++ [AObj.mk 0 7 [eSpec spec0], AObj.mk 0 7 [eSpec s]]).length = (H ++ [AObj.mk 0 7 [eSpec spec0], AObj.mk 0 7 [eSpec spec0]]).length by simp] at this) rfl (hbl spec0 spec0) (by simp [AV.bel, Lid]) h1
  cases hr : rspec b with
  | error e =>
    have he := rspec_err23 _ _ hr
    rw [show readSpec b = (spec0, e) by rw [readSpec, if_neg hb, hr]]
    have c1 := cw spec0 (by rw [hr]; intro l' r h; cases h)
    rw [hr] at c1
    change AC _ _ _ _ (Ret (.int .i64 e) (H ++ [AObj.mk 0 7 [eSpec spec0], AObj.mk 0 7 [eSpec spec0]])) at c1
    repeat (first | refine then_nrm ?_ | refine aw_seq ?_)
    refine aw_region ?_
    refine ao1 (by decide) (o_move (v := .pl _) rfl) ?_
    refine ao1 (by decide) (o_makeFunc (vs := []) (us := [_]) rfl rfl) ?_
    refine ao_ret (c1) rfl (by decide) ?_
    refine ao1 (by decide) (o_assign (v := .int _ _) rfl) ?_
    refine ao_nil ?_
    try dsimp only
    repeat (first | refine then_nrm ?_ | refine aw_seq ?_)
    refine aw_region ?_
    refine ao1 (by decide) (o_move (v := .int _ _) rfl) ?_
    refine ao1 (by decide) (o_ne rfl rfl) ?_
    refine ao_nil ?_
    repeat (refine then_nrm ?_)
    refine aw_cond rfl (fun hc => ?_) (fun hc => ?_)
    · repeat (refine aw_seq ?_)
      refine aw_region ?_
      refine ao1 (by decide) (V1.up (o_build (cs := [.int _ _, .int _ _, .int _ _, .str _, .bool _, .int _ _, .int _ _]) rfl)) ?_
      refine ao1 (by decide) (o_move (v := .int _ _) rfl) ?_
      refine ao2 (by rintro _ ⟨⟩) (w_storeW (sz := 7) rfl rfl rfl rfl rfl rfl rfl rfl (Nat.le_of_ble_eq_true rfl)) ?_
      refine ao1 (by decide) (o_assign (v := .int _ _) rfl) ?_
      refine ao_nil ?_
      try dsimp only [AV.up, put, List.set_cons_zero]
      repeat (first | refine then_nrm ?_ | refine then_ret ?_ | refine aw_ret ?_)
      exact e_done hB (r_cellR rfl (lk rfl rfl) rfl rfl rfl (r_tmp rfl .nil)) rfl rfl
    · simp at hc; omega
  | ok y =>
    obtain ⟨s, r⟩ := y
    have c1 := cw s (by rw [hr]; rintro l' r' ⟨⟩; rfl)
    rw [hr] at c1
    cases r with
    | nil =>
      rw [show readSpec b = (s, 0) by rw [readSpec, if_neg hb, hr]; rfl]
      change AC _ _ _ _ (Ret (.int .i64 0) (H ++ [AObj.mk 0 7 [eSpec spec0], AObj.mk 0 7 [eSpec s]])) at c1
      repeat (first | refine then_nrm ?_ | refine aw_seq ?_)
      refine aw_region ?_
      refine ao1 (by decide) (o_move (v := .pl _) rfl) ?_
      refine ao1 (by decide) (o_makeFunc (vs := []) (us := [_]) rfl rfl) ?_
      refine ao_ret (c1) rfl (by decide) ?_
      refine ao1 (by decide) (o_assign (v := .int _ _) rfl) ?_
      refine ao_nil ?_
      try dsimp only
      repeat (first | refine then_nrm ?_ | refine aw_seq ?_)
      refine aw_region ?_
      refine ao1 (by decide) (o_move (v := .int _ _) rfl) ?_
      refine ao1 (by decide) (o_ne rfl rfl) ?_
      refine ao_nil ?_
      repeat (refine then_nrm ?_)
      refine aw_cond rfl (fun hc => ?_) (fun hc => ?_)
      · simp at hc
      · repeat (first | refine then_nrm ?_ | refine aw_seq ?_ | refine aw_skip ?_)
        refine aw_region ?_
        refine ao1 (by decide) (w_loadR rfl (lk rfl rfl) rfl rfl rfl) ?_
        refine ao2 (by rintro _ ⟨⟩) (w_storeW (sz := 7) rfl rfl rfl rfl rfl rfl rfl rfl (Nat.le_of_ble_eq_true rfl)) ?_
        refine ao1 (by decide) (o_assign (v := .int _ _) rfl) ?_
        refine ao_nil ?_
        try dsimp only [put, List.set_cons_zero]
        repeat (first | refine then_nrm ?_ | refine aw_ret ?_)
        exact e_done hB (r_cellR rfl (lk rfl rfl) rfl rfl rfl (r_tmp rfl .nil)) rfl rfl
    | cons c r =>
      rw [show readSpec b = (spec0, 3) by rw [readSpec, if_neg hb, hr]; rfl]
      change AC _ _ _ _ (Ret (.int .i64 3) (H ++ [AObj.mk 0 7 [eSpec spec0], AObj.mk 0 7 [eSpec s]])) at c1
      repeat (first | refine then_nrm ?_ | refine aw_seq ?_)
      refine aw_region ?_
      refine ao1 (by decide) (o_move (v := .pl _) rfl) ?_
      refine ao1 (by decide) (o_makeFunc (vs := []) (us := [_]) rfl rfl) ?_
      refine ao_ret (c1) rfl (by decide) ?_
      refine ao1 (by decide) (o_assign (v := .int _ _) rfl) ?_
      refine ao_nil ?_
      try dsimp only
      repeat (first | refine then_nrm ?_ | refine aw_seq ?_)
      refine aw_region ?_
      refine ao1 (by decide) (o_move (v := .int _ _) rfl) ?_
      refine ao1 (by decide) (o_ne rfl rfl) ?_
      refine ao_nil ?_
      repeat (refine then_nrm ?_)
      refine aw_cond rfl (fun hc => ?_) (fun hc => ?_)
      · repeat (refine aw_seq ?_)
        refine aw_region ?_
        refine ao1 (by decide) (V1.up (o_build (cs := [.int _ _, .int _ _, .int _ _, .str _, .bool _, .int _ _, .int _ _]) rfl)) ?_
        refine ao1 (by decide) (o_move (v := .int _ _) rfl) ?_
        refine ao2 (by rintro _ ⟨⟩) (w_storeW (sz := 7) rfl rfl rfl rfl rfl rfl rfl rfl (Nat.le_of_ble_eq_true rfl)) ?_
        refine ao1 (by decide) (o_assign (v := .int _ _) rfl) ?_
        refine ao_nil ?_
        try dsimp only [AV.up, put, List.set_cons_zero]
        repeat (first | refine then_nrm ?_ | refine then_ret ?_ | refine aw_ret ?_)
        exact e_done hB (r_cellR rfl (lk rfl rfl) rfl rfl rfl (r_tmp rfl .nil)) rfl rfl
      · simp at hc
end Go.Av

/-
  SPECS AS BYTES, plainly: four numbers, one behind the other.
-/
namespace Go.Av
theorem pb_assoc {α β γ : Type} (f : Rd α) (g : α → Rd β) (h : β → Rd γ) : pb (pb f g) h = pb f fun v => pb (g v) h := by
  funext b
  cases hf : f b with
  | error e => rw [pb_err (show pb f g b = .error e from pb_err hf), pb_err hf]
  | ok x =>
    obtain ⟨v, r⟩ := x
    rw [pb_ok hf]
    cases hg : g v r with
    | error e => rw [pb_err (show pb f g b = .error e by rw [pb_ok hf, hg]), pb_err hg]
    | ok y => obtain ⟨w, r2⟩ := y; rw [pb_ok (show pb f g b = .ok (w, r2) by rw [pb_ok hf, hg]), pb_ok hg]
theorem pb_need {α β : Type} (v : α) (h : α → Rd β) : pb (needP true v) h = h v := by funext b; rfl
def rnums : Nat → List Nat → Rd (List Nat)
  | 0, acc => needP true acc
  | m + 1, acc => pb gotf fun n => rnums m (acc ++ [n])
def rtail (ns : List Nat) : Rd Spec := match ns with
  | [n, k, u, m] => pb (if 16 < m then failP 3 else takeP m) fun t => rsp5 n k u t
  | _ => failP 0
theorem rsp1_nums : rsp1 = pb (rnums 4 []) rtail := by
  simp only [rnums, pb_assoc, pb_need, rsp1, textS]
  rfl
theorem getD_snoc (ns : List Nat) (x j : Nat) : (ns ++ [x]).getD j 0 = if j = ns.length then x else ns.getD j 0 := by
  simp only [List.getD_eq_getElem?_getD]
  split
  · rename_i h; subst h; simp
  · rename_i h
    rcases Nat.lt_or_ge j ns.length with h1 | h1
    · rw [List.getElem?_append_left h1]
    · rw [List.getElem?_eq_none (by simp; omega), List.getElem?_eq_none h1]
end Go.Av

namespace Go.Av
open Go.Proofs
set_option maxRecDepth 10000
set_option linter.unusedSimpArgs false
set_option linter.unusedVariables false

def specT (x : Except Int (Spec × List UInt8)) : AV := match x with
  | .ok (s, r) => .tup [.agg (eSpec s), .pl (r.map brow), .int .i64 0]
  | .error e => .tup [.agg (eSpec spec0), .pl [], .int .i64 e]
theorem eWn4 (n k u m : Nat) : eWn (fun j => [n, k, u, m].getD j 0) = [.int .u64 (n : Int), .int .u64 (k : Int), .int .u64 (u : Int), .int .u64 (m : Int)] := rfl
theorem len4 {ns : List Nat} (h : ns.length = 4) : ∃ n k u m, ns = [n, k, u, m] := by
  match ns, h with
  | [n, k, u, m], _ => exact ⟨n, k, u, m, rfl⟩
theorem rnums_small : ∀ {m : Nat} {acc ns : List Nat} {b r : List UInt8}, (∀ n ∈ acc, n ≤ 4611686018427387904) → rnums m acc b = .ok (ns, r) → ∀ n ∈ ns, n ≤ 4611686018427387904
  | 0, acc, ns, b, r, ha, h => by cases h; exact ha
  | m + 1, acc, ns, b, r, ha, h => by
    obtain ⟨v, r1, h1, h2⟩ := pb_inv h
    refine rnums_small (fun n hn => ?_) h2
    rcases List.mem_append.1 hn with h3 | h3
    · exact ha n h3
    · rw [List.mem_singleton] at h3; subst h3; exact (got_rest h1).2
set_option maxHeartbeats 0 in
theorem ref08_spec (b : List UInt8) (H : Heap) (hb : b.length ≤ 9223372036854775807) : AC Try.prog 49 [.pl (b.map brow)] H (Ret (specT (rspec b)) H) := by
  refine AC.body (N := 130) [.cell 2 23, .tmp 3, .tmp 4] Try.func49 rfl rfl rfl (Nat.le_of_ble_eq_true rfl) fun B hB => ?_
  repeat (refine aw_seq ?_)
  refine aw_region ?_
  refine ao2 (by rintro _ ⟨⟩; decide) (o_allocL (sz := 7) rfl (by decide) rfl) ?_
  refine ao1 (by decide) (o_assign (v := .nsl) rfl) ?_
  refine ao1 (by decide) (o_assign (v := .int _ _) rfl) ?_
  refine ao_nil ?_
  try dsimp only [List.length_nil, put, List.nil_append]
  repeat (first | refine then_nrm ?_ | refine aw_seq ?_)
  refine aw_region ?_
  refine ao2 (by rintro _ ⟨⟩; decide) (o_allocL (sz := 7) rfl (by decide) rfl) ?_
  refine ao_nil ?_
  try dsimp only [put, List.length_cons, List.length_nil, Nat.reduceAdd, List.cons_append, List.nil_append]
  cases b with
  | nil =>
    repeat (first | refine then_nrm ?_ | refine aw_seq ?_)
    refine aw_region ?_
    refine ao1 (by decide) (o_move (v := .pl _) rfl) ?_
    refine ao1 (by decide) (o_lenp rfl) ?_
    refine ao1 (by decide) (o_eq rfl rfl) ?_
    refine ao_nil ?_
    repeat (refine then_nrm ?_)
    refine aw_cond rfl (fun hc => ?_) (fun hc => ?_)
    · repeat (refine aw_seq ?_)
      refine aw_region ?_
      refine ao1 (by decide) (w_loadR rfl (lk rfl rfl) rfl rfl rfl) ?_
      refine ao2 (by rintro _ ⟨⟩) (w_storeW (sz := 7) rfl rfl rfl rfl rfl rfl rfl rfl (Nat.le_of_ble_eq_true rfl)) ?_
      refine ao1 (by decide) (o_assign (v := .nsl) rfl) ?_
      refine ao1 (by decide) (o_assign (v := .int _ _) rfl) ?_
      refine ao_nil ?_
      try dsimp only [put, List.set_cons_zero]
      repeat (refine then_nrm ?_)
      refine aw_nslpl 3 rfl ?_
      refine aw_ret ?_
      exact e_done hB (r_cellR rfl (lk rfl rfl) rfl rfl rfl (r_tmp rfl (r_tmp rfl .nil))) rfl rfl
    · simp at hc
  | cons c b0 =>
  repeat (first | refine then_nrm ?_ | refine aw_seq ?_)
  refine aw_region ?_
  refine ao1 (by decide) (o_move (v := .pl _) rfl) ?_
  refine ao1 (by decide) (o_lenp rfl) ?_
  refine ao1 (by decide) (o_eq rfl rfl) ?_
  refine ao_nil ?_
  repeat (refine then_nrm ?_)
  refine aw_cond rfl (fun hc => ?_) (fun hc => ?_)
  · simp at hc; omega
  have hr : ((c :: b0).map brow)[(0 : Int).toNat]? = some (brow c) := rfl
  repeat (first | refine then_nrm ?_ | refine aw_seq ?_ | refine aw_skip ?_)
  refine aw_region ?_
  refine ao1 (by decide) (o_move (v := .pl _) rfl) ?_
  refine ao1 (by decide) (w_indexAddrpN rfl rfl hr rfl) ?_
  refine ao1 (by decide) (o_load1p (v := .int _ _) rfl hr rfl) ?_
  refine ao1 (by decide) (o_ne rfl rfl) ?_
  refine ao_nil ?_
  try dsimp only
  by_cases hk : c ≠ 1
  · rw [show rspec (c :: b0) = .error 3 by rw [rspec, pb_ok (v := c) (r := b0) rfl, if_pos hk]; rfl]
    repeat (refine then_nrm ?_)
    refine aw_cond rfl (fun hc => ?_) (fun hc => ?_)
    · repeat (refine aw_seq ?_)
      refine aw_region ?_
      refine ao1 (by decide) (w_loadR rfl (lk rfl rfl) rfl rfl rfl) ?_
      refine ao2 (by rintro _ ⟨⟩) (w_storeW (sz := 7) rfl rfl rfl rfl rfl rfl rfl rfl (Nat.le_of_ble_eq_true rfl)) ?_
      refine ao1 (by decide) (o_assign (v := .nsl) rfl) ?_
      refine ao1 (by decide) (o_assign (v := .int _ _) rfl) ?_
      refine ao_nil ?_
      try dsimp only [put, List.set_cons_zero]
      repeat (refine then_nrm ?_)
      refine aw_nslpl 3 rfl ?_
      refine aw_ret ?_
      exact e_done hB (r_cellR rfl (lk rfl rfl) rfl rfl rfl (r_tmp rfl (r_tmp rfl .nil))) rfl rfl
    · exfalso
      have : (c.toNat : Int) = 1 := by simpa using hc
      exact hk (UInt8.toNat_inj.1 (by show c.toNat = 1; omega))
  have hk2 : c = 1 := by simpa using hk
  subst hk2
  clear hr
  repeat (refine then_nrm ?_)
  refine aw_cond rfl (fun hc => ?_) (fun hc => ?_)
  · simp at hc
  have hb' : b0.length ≤ 9223372036854775806 := by simp at hb; omega
  have hrs : rspec (1 :: b0) = pb (rnums 4 []) rtail b0 := by rw [rspec, pb_ok (v := 1) (r := b0) rfl, if_neg hk, rsp1_nums]
  repeat (first | refine then_nrm ?_ | refine aw_seq ?_ | refine aw_skip ?_)
  refine aw_region ?_
  refine ao1 (by decide) (o_move (v := .pl _) rfl) ?_
  refine ao1 (by decide) (o_slicepF (sz := 1) (l := 1) (ys := b0.map brow) rfl (.some rfl rfl) (by simp) (bytes_len1 _) rfl) ?_
  refine ao1 (by decide) (o_assign (v := .pl _) rfl) ?_
  refine ao_nil ?_
  repeat (first | refine then_nrm ?_ | refine aw_seq ?_)
  refine aw_region ?_
  refine ao2 (by rintro _ ⟨⟩; decide) (o_allocL (sz := 4) rfl (by decide) rfl) ?_
  refine ao_nil ?_
  try dsimp only [put, List.length_cons, List.length_nil, Nat.reduceAdd, List.cons_append, List.nil_append]
  repeat (first | refine then_nrm ?_ | refine aw_seq ?_)
  refine aw_region ?_
  refine ao1 (by decide) (o_assign (v := .int _ _) rfl) ?_
  refine ao_nil ?_
  clear hc
  rw [hrs]
  generalize hres : pb (rnums 4 []) rtail b0 = res
  repeat (first | refine then_nrm ?_ | refine aw_block ?_)
  refine aw_loop (G := List Nat × List UInt8) (fun s => s.1.length ≤ 4 ∧ pb (rnums (4 - s.1.length) s.1) rtail s.2 = res ∧ s.2.length ≤ b0.length ∧ ∀ n ∈ s.1, n ≤ 4611686018427387904) (fun s => [(0, .pl (s.2.map brow)), (2, .pt (Lid H.length 0) 0 0 0), (5, .pt (Lid H.length 1) 0 0 0), (6, .pt (Lid H.length 2) 0 0 0), (7, .int .i64 (s.1.length : Int))]) (fun s => H ++ [⟨0, 7, [eSpec spec0]⟩, ⟨0, 7, [eSpec spec0]⟩, ⟨0, 4, [eWn fun j => s.1.getD j 0]⟩]) (fun s => 4 - s.1.length) ([], b0) ⟨Nat.zero_le _, hres, Nat.le_refl _, by simp⟩ (by repeat (first | exact Sub.nil | refine Sub.cons (by rfl) ?_)) (.inl rfl) ?_
  rintro ⟨ns, b1⟩ ⟨hn4, hspec, hbl, hsm⟩
  simp only at hn4 hspec hbl hsm ⊢
  repeat (refine aw_seq ?_)
  refine aw_region ?_
  refine ao1 (by decide) (o_move (v := .int _ _) rfl) ?_
  refine ao1 (by decide) (o_lt rfl rfl) ?_
  refine ao_nil ?_
  repeat (refine then_nrm ?_)
  refine aw_cond rfl (fun hc => ?_) (fun hc => ?_)
  · have hi : ns.length < 4 := by simp at hc; omega
    obtain ⟨m', hm'⟩ : ∃ m', 4 - ns.length = m' + 1 := ⟨3 - ns.length, by omega⟩
    rw [hm', rnums, pb_assoc] at hspec
    have cn := fun H => ref08_got b1 H (by omega)
    cases hg : gotf b1 with
    | error e0 =>
      have he := got_err23 _ _ hg
      rw [show got 0 0 b1 = .error e0 from hg] at cn
      rw [pb_err hg] at hspec
      rw [← hspec]
      repeat (first | refine then_nrm ?_ | refine aw_seq ?_ | refine aw_block ?_ | refine aw_skip ?_)
      refine aw_region ?_
      refine ao1 (by decide) (o_move (v := .pl _) rfl) ?_
      refine ao_ret (cn _) rfl (by decide) ?_
      refine ao1 (by decide) (o_move (v := .tup _) rfl) ?_
      refine ao1 (by decide) (o_extract (v := .int _ _) rfl rfl) ?_
      refine ao1 (by decide) (o_extract (v := .pl _) rfl rfl) ?_
      refine ao1 (by decide) (o_extract (v := .int _ _) rfl rfl) ?_
      refine ao1 (by decide) (o_assign (v := .int _ _) rfl) ?_
      refine ao1 (by decide) (o_assign (v := .pl _) rfl) ?_
      refine ao1 (by decide) (o_assign (v := .int _ _) rfl) ?_
      refine ao_nil ?_
      repeat (first | refine then_nrm ?_ | refine aw_seq ?_)
      refine aw_region ?_
      refine ao1 (by decide) (o_move (v := .int _ _) rfl) ?_
      refine ao1 (by decide) (o_ne rfl rfl) ?_
      refine ao_nil ?_
      repeat (refine then_nrm ?_)
      refine aw_cond rfl (fun hc => ?_) (fun hc => ?_)
      · repeat (refine aw_seq ?_)
        refine aw_region ?_
        refine ao1 (by decide) (w_loadR rfl (lk rfl rfl) rfl rfl rfl) ?_
        refine ao1 (by decide) (o_move (v := .int _ _) rfl) ?_
        refine ao2 (by rintro _ ⟨⟩) (w_storeW (sz := 7) rfl rfl rfl rfl rfl rfl rfl rfl (Nat.le_of_ble_eq_true rfl)) ?_
        refine ao1 (by decide) (o_assign (v := .nsl) rfl) ?_
        refine ao1 (by decide) (o_assign (v := .int _ _) rfl) ?_
        refine ao_nil ?_
        try dsimp only [put, List.set_cons_zero]
        repeat (refine then_nrm ?_)
        refine aw_nslpl 3 rfl ?_
        refine aw_ret ?_
        exact e_done hB (r_cellR rfl (lk rfl rfl) rfl rfl rfl (r_tmp rfl (r_tmp rfl .nil))) rfl rfl
      · simp at hc; omega
    | ok x =>
      obtain ⟨x, b2⟩ := x
      rw [show got 0 0 b1 = .ok (x, b2) from hg] at cn
      rw [pb_ok hg] at hspec
      obtain ⟨hlt, hx62⟩ := got_rest (b := b1) hg
      repeat (first | refine then_nrm ?_ | refine aw_seq ?_ | refine aw_block ?_ | refine aw_skip ?_)
      refine aw_region ?_
      refine ao1 (by decide) (o_move (v := .pl _) rfl) ?_
      refine ao_ret (cn _) rfl (by decide) ?_
      refine ao1 (by decide) (o_move (v := .tup _) rfl) ?_
      refine ao1 (by decide) (o_extract (v := .int _ _) rfl rfl) ?_
      refine ao1 (by decide) (o_extract (v := .pl _) rfl rfl) ?_
      refine ao1 (by decide) (o_extract (v := .int _ _) rfl rfl) ?_
      refine ao1 (by decide) (o_assign (v := .int _ _) rfl) ?_
      refine ao1 (by decide) (o_assign (v := .pl _) rfl) ?_
      refine ao1 (by decide) (o_assign (v := .int _ _) rfl) ?_
      refine ao_nil ?_
      repeat (first | refine then_nrm ?_ | refine aw_seq ?_)
      refine aw_region ?_
      refine ao1 (by decide) (o_move (v := .int _ _) rfl) ?_
      refine ao1 (by decide) (o_ne rfl rfl) ?_
      refine ao_nil ?_
      repeat (refine then_nrm ?_)
      refine aw_cond rfl (fun hc => ?_) (fun hc => ?_)
      · simp at hc
      have hset : (eWn fun j => ns.getD j 0).take (0 + ns.length * 1) ++ [AV.int .u64 (x : Int)] ++ (eWn fun j => ns.getD j 0).drop (0 + ns.length * 1 + 1) = eWn fun j => (ns ++ [x]).getD j 0 := by
        rw [Nat.zero_add, Nat.mul_one, eWn_set _ hi]
        exact eWn_congr fun j _ => (getD_snoc ns x j).symm
      repeat (first | refine then_nrm ?_ | refine aw_seq ?_ | refine aw_skip ?_)
      refine aw_region ?_
      refine ao1 (by decide) (o_move (v := .int _ _) rfl) ?_
      refine ao1 (by decide) (o_move (v := .int _ _) rfl) ?_
      refine ao1 (by decide) (w_indexArrN rfl (lk rfl rfl) rfl rfl hi) ?_
      refine ao2 (by rintro _ ⟨⟩) (w_storeP (sz := 1) (v := .int _ _) (r' := eWn fun j => (ns ++ [x]).getD j 0) rfl rfl rfl rfl rfl rfl rfl rfl (by show 0 + ns.length * 1 + 1 ≤ 4; omega) hset) ?_
      refine ao_nil ?_
      try dsimp only [put, List.set_cons_zero, List.set_cons_succ]
      repeat (refine then_nrm ?_)
      refine aw_region ?_
      refine ao1 (by decide) (o_move (v := .pl _) rfl) ?_
      refine ao1 (by decide) (o_assign (v := .pl _) rfl) ?_
      refine ao_nil ?_
      repeat (first | refine then_nrm ?_ | refine blk_nrm ?_)
      refine aw_region ?_
      refine ao1 (by decide) (o_move (v := .int _ _) rfl) ?_
      refine ao1 (by decide) (o_add (r := ((ns.length + 1 : Nat) : Int)) rfl rfl (wrap64_ok (by omega) (by omega))) ?_
      refine ao1 (by decide) (o_assign (v := .int _ _) rfl) ?_
      refine ao_nil ?_
      repeat (refine then_nrm ?_)
      refine ⟨(ns ++ [x], b2), by simp only [List.length_append, List.length_cons, List.length_nil]; omega, ⟨by simp only [List.length_append, List.length_cons, List.length_nil]; omega, by simp only [List.length_append, List.length_cons, List.length_nil]; rw [show 4 - (ns.length + (0 + 1)) = m' by omega]; exact hspec, by simp only; omega, ?_⟩, by simp only [List.length_append, List.length_cons, List.length_nil, Nat.zero_add]; exact (by repeat (first | exact Sub.nil | refine Sub.cons (by rfl) ?_)), .inl rfl⟩
      intro n hn
      rcases List.mem_append.1 hn with h3 | h3
      · exact hsm n h3
      · rw [List.mem_singleton] at h3; subst h3; exact hx62
  have hn : ns.length = 4 := by simp at hc; omega
  obtain ⟨n, k, u, m, rfl⟩ := len4 hn
  clear hc hn4 hn
  have s0 : n ≤ 4611686018427387904 := hsm n (by simp)
  have s1 : k ≤ 4611686018427387904 := hsm k (by simp)
  have s2 : u ≤ 4611686018427387904 := hsm u (by simp)
  have s3 : m ≤ 4611686018427387904 := hsm m (by simp)
  clear hsm
  rw [eWn4]
  change pb (needP true [n, k, u, m]) rtail b1 = res at hspec
  rw [pb_need, rtail] at hspec
  repeat (first | refine then_nrm ?_ | refine then_brk ?_ | refine blk_hit ?_ | refine aw_seq ?_ | refine aw_exit ?_)
  refine aw_region ?_
  refine ao1 (by decide) (w_indexArr rfl (lk rfl rfl) rfl rfl (by omega) (by omega)) ?_
  refine ao1 (by decide) (w_load1 (v := .int _ _) rfl (lk rfl rfl) rfl rfl rfl) ?_
  refine ao1 (by decide) (o_gt rfl rfl) ?_
  refine ao_nil ?_
  try dsimp only [List.length_cons, List.length_nil, Nat.reduceAdd]
  repeat (refine then_nrm ?_)
  refine aw_cond rfl (fun hc => ?_) (fun hc => ?_)
  · have hm : 16 < m := by simp at hc; omega
    rw [if_pos hm] at hspec
    rw [← hspec]
    repeat (refine aw_seq ?_)
    refine aw_region ?_
    refine ao1 (by decide) (w_loadR rfl (lk rfl rfl) rfl rfl rfl) ?_
    refine ao2 (by rintro _ ⟨⟩) (w_storeW (sz := 7) rfl rfl rfl rfl rfl rfl rfl rfl (Nat.le_of_ble_eq_true rfl)) ?_
    refine ao1 (by decide) (o_assign (v := .nsl) rfl) ?_
    refine ao1 (by decide) (o_assign (v := .int _ _) rfl) ?_
    refine ao_nil ?_
    try dsimp only [put, List.set_cons_zero]
    repeat (refine then_nrm ?_)
    refine aw_nslpl 3 rfl ?_
    refine aw_ret ?_
    exact e_done hB (r_cellR rfl (lk rfl rfl) rfl rfl rfl (r_tmp rfl (r_tmp rfl .nil))) rfl rfl
  have hm : ¬ 16 < m := by simp at hc; omega
  rw [if_neg hm] at hspec
  clear hc
  repeat (first | refine then_nrm ?_ | refine aw_seq ?_ | refine aw_skip ?_)
  refine aw_region ?_
  refine ao1 (by decide) (o_move (v := .pl _) rfl) ?_
  refine ao1 (by decide) (o_lenp rfl) ?_
  refine ao1 (by decide) (o_conv_int (r := (b1.length : Int)) rfl (by rw [List.length_map]; exact u64_wrap _ (by omega))) ?_
  refine ao1 (by decide) (w_indexArr rfl (lk rfl rfl) rfl rfl (by omega) (by omega)) ?_
  refine ao1 (by decide) (w_load1 (v := .int _ _) rfl (lk rfl rfl) rfl rfl rfl) ?_
  refine ao1 (by decide) (o_lt rfl rfl) ?_
  refine ao_nil ?_
  repeat (refine then_nrm ?_)
  refine aw_cond rfl (fun hc => ?_) (fun hc => ?_)
  · have hl : b1.length < m := by simp at hc; omega
    rw [pb_err (show takeP m b1 = .error 2 by rw [takeP, if_pos hl])] at hspec
    rw [← hspec]
    repeat (refine aw_seq ?_)
    refine aw_region ?_
    refine ao1 (by decide) (w_loadR rfl (lk rfl rfl) rfl rfl rfl) ?_
    refine ao2 (by rintro _ ⟨⟩) (w_storeW (sz := 7) rfl rfl rfl rfl rfl rfl rfl rfl (Nat.le_of_ble_eq_true rfl)) ?_
    refine ao1 (by decide) (o_assign (v := .nsl) rfl) ?_
    refine ao1 (by decide) (o_assign (v := .int _ _) rfl) ?_
    refine ao_nil ?_
    try dsimp only [put, List.set_cons_zero]
    repeat (refine then_nrm ?_)
    refine aw_nslpl 3 rfl ?_
    refine aw_ret ?_
    exact e_done hB (r_cellR rfl (lk rfl rfl) rfl rfl rfl (r_tmp rfl (r_tmp rfl .nil))) rfl rfl
  have hl : ¬ b1.length < m := by simp at hc; omega
  clear hc
  rw [pb_ok (show takeP m b1 = .ok (⟨(b1.take m).toArray⟩, b1.drop m) by rw [takeP, if_neg hl])] at hspec
  repeat (first | refine then_nrm ?_ | refine aw_seq ?_ | refine aw_skip ?_)
  refine aw_region ?_
  refine ao1 (by decide) (o_move (v := .pl _) rfl) ?_
  refine ao1 (by decide) (w_indexArr rfl (lk rfl rfl) rfl rfl (by omega) (by omega)) ?_
  refine ao1 (by decide) (w_load1 (v := .int _ _) rfl (lk rfl rfl) rfl rfl rfl) ?_
  refine ao1 (by decide) (o_slicepT (sz := 1) (h := m) (ys := (b1.take m).map brow) rfl (.some rfl rfl) (by simp; omega) (bytes_len1 _) (List.map_take).symm) ?_
  refine ao1 (by decide) (o_bytesStr (bs := b1.take m) rfl) ?_
  refine ao1 (by decide) (o_assign (v := .str _) rfl) ?_
  refine ao_nil ?_
  repeat (first | refine then_nrm ?_ | refine aw_seq ?_)
  refine aw_region ?_
  refine ao1 (by decide) (o_move (v := .pl _) rfl) ?_
  refine ao1 (by decide) (w_indexArr rfl (lk rfl rfl) rfl rfl (by omega) (by omega)) ?_
  refine ao1 (by decide) (w_load1 (v := .int _ _) rfl (lk rfl rfl) rfl rfl rfl) ?_
  refine ao1 (by decide) (o_slicepF (sz := 1) (l := m) (ys := (b1.drop m).map brow) rfl (.some rfl rfl) (by simp; omega) (bytes_len1 _) (List.map_drop).symm) ?_
  refine ao1 (by decide) (o_assign (v := .pl _) rfl) ?_
  refine ao_nil ?_
  have hbd : (b1.drop m).length ≤ b0.length := by rw [List.length_drop]; omega
  have hts : (⟨(b1.take m).toArray⟩ : ByteArray).size ≤ 9223372036854775807 := by
    show (b1.take m).toArray.size ≤ _
    rw [List.size_toArray, List.length_take]; omega
  generalize (⟨(b1.take m).toArray⟩ : ByteArray) = t at hspec hts
  generalize b1.drop m = b2 at hspec hbd
  repeat (first | refine then_nrm ?_ | refine aw_seq ?_)
  refine aw_region ?_
  refine ao1 (by decide) (o_move (v := .pl _) rfl) ?_
  refine ao1 (by decide) (o_lenp rfl) ?_
  refine ao1 (by decide) (o_eq rfl rfl) ?_
  refine ao_nil ?_
  cases b2 with
  | nil =>
    rw [← hspec]
    repeat (refine then_nrm ?_)
    refine aw_cond rfl (fun hc => ?_) (fun hc => ?_)
    · repeat (refine aw_seq ?_)
      refine aw_region ?_
      refine ao1 (by decide) (w_loadR rfl (lk rfl rfl) rfl rfl rfl) ?_
      refine ao2 (by rintro _ ⟨⟩) (w_storeW (sz := 7) rfl rfl rfl rfl rfl rfl rfl rfl (Nat.le_of_ble_eq_true rfl)) ?_
      refine ao1 (by decide) (o_assign (v := .nsl) rfl) ?_
      refine ao1 (by decide) (o_assign (v := .int _ _) rfl) ?_
      refine ao_nil ?_
      try dsimp only [put, List.set_cons_zero]
      repeat (refine then_nrm ?_)
      refine aw_nslpl 3 rfl ?_
      refine aw_ret ?_
      exact e_done hB (r_cellR rfl (lk rfl rfl) rfl rfl rfl (r_tmp rfl (r_tmp rfl .nil))) rfl rfl
    · simp at hc
  | cons w b3 =>
  repeat (refine then_nrm ?_)
  refine aw_cond rfl (fun hc => ?_) (fun hc => ?_)
  · simp at hc; omega
  clear hc
  rw [rsp5, pb_ok (v := w) (r := b3) rfl] at hspec
  have hr : ((w :: b3).map brow)[(0 : Int).toNat]? = some (brow w) := rfl
  repeat (first | refine then_nrm ?_ | refine aw_seq ?_ | refine aw_skip ?_)
  refine aw_region ?_
  refine ao1 (by decide) (o_move (v := .pl _) rfl) ?_
  refine ao1 (by decide) (w_indexAddrpN rfl rfl hr rfl) ?_
  refine ao1 (by decide) (o_load1p (v := .int _ _) rfl hr rfl) ?_
  refine ao1 (by decide) (o_gt rfl rfl) ?_
  refine ao_nil ?_
  try dsimp only
  repeat (refine then_nrm ?_)
  refine aw_cond rfl (fun hc => ?_) (fun hc => ?_)
  · have hw : 1 < w.toNat := by simp at hc; omega
    rw [if_pos hw] at hspec
    rw [← hspec]
    repeat (refine aw_seq ?_)
    refine aw_region ?_
    refine ao1 (by decide) (w_loadR rfl (lk rfl rfl) rfl rfl rfl) ?_
    refine ao2 (by rintro _ ⟨⟩) (w_storeW (sz := 7) rfl rfl rfl rfl rfl rfl rfl rfl (Nat.le_of_ble_eq_true rfl)) ?_
    refine ao1 (by decide) (o_assign (v := .nsl) rfl) ?_
    refine ao1 (by decide) (o_assign (v := .int _ _) rfl) ?_
    refine ao_nil ?_
    try dsimp only [put, List.set_cons_zero]
    repeat (refine then_nrm ?_)
    refine aw_nslpl 3 rfl ?_
    refine aw_ret ?_
    exact e_done hB (r_cellR rfl (lk rfl rfl) rfl rfl rfl (r_tmp rfl (r_tmp rfl .nil))) rfl rfl
  have hw : ¬ 1 < w.toNat := by simp at hc; omega
  rw [if_neg hw, rsp6] at hspec
  clear hc
  repeat (first | refine then_nrm ?_ | refine aw_seq ?_ | refine aw_skip ?_)
  refine aw_region ?_
  refine ao1 (by decide) (o_move (v := .pl _) rfl) ?_
  refine ao1 (by decide) (w_indexAddrpN rfl rfl hr rfl) ?_
  refine ao1 (by decide) (o_load1p (v := .int _ _) rfl hr rfl) ?_
  refine ao1 (by decide) (o_eq rfl rfl) ?_
  refine ao1 (by decide) (o_assign (v := .bool _) rfl) ?_
  refine ao_nil ?_
  try dsimp only
  rw [show ((w.toNat : Int) == 1) = (w.toNat == 1) by rw [Bool.eq_iff_iff]; simp; omega]
  generalize (w.toNat == 1) = on at hspec
  clear hr
  have hb3 : b3.length ≤ b0.length := by simp at hbd; omega
  have cn := fun H => ref08_got b3 H (by omega)
  cases hg : gotf b3 with
  | error e0 =>
    have he := got_err23 _ _ hg
    rw [show got 0 0 b3 = .error e0 from hg] at cn
    rw [pb_err hg] at hspec
    rw [← hspec]
    repeat (first | refine then_nrm ?_ | refine aw_seq ?_)
    refine aw_region ?_
    refine ao1 (by decide) (o_move (v := .pl _) rfl) ?_
    refine ao1 (by decide) (o_slicepF (sz := 1) (l := 1) (ys := b3.map brow) rfl (.some rfl rfl) (by simp) (bytes_len1 _) rfl) ?_
    refine ao_ret (cn _) rfl (by decide) ?_
    refine ao1 (by decide) (o_move (v := .tup _) rfl) ?_
    refine ao1 (by decide) (o_extract (v := .int _ _) rfl rfl) ?_
    refine ao1 (by decide) (o_extract (v := .pl _) rfl rfl) ?_
    refine ao1 (by decide) (o_extract (v := .int _ _) rfl rfl) ?_
    refine ao1 (by decide) (o_assign (v := .int _ _) rfl) ?_
    refine ao1 (by decide) (o_assign (v := .pl _) rfl) ?_
    refine ao1 (by decide) (o_assign (v := .int _ _) rfl) ?_
    refine ao_nil ?_
    repeat (first | refine then_nrm ?_ | refine aw_seq ?_)
    refine aw_region ?_
    refine ao1 (by decide) (o_move (v := .int _ _) rfl) ?_
    refine ao1 (by decide) (o_ne rfl rfl) ?_
    refine ao_nil ?_
    repeat (refine then_nrm ?_)
    refine aw_cond rfl (fun hc => ?_) (fun hc => ?_)
    · repeat (refine aw_seq ?_)
      refine aw_region ?_
      refine ao1 (by decide) (w_loadR rfl (lk rfl rfl) rfl rfl rfl) ?_
      refine ao1 (by decide) (o_move (v := .int _ _) rfl) ?_
      refine ao2 (by rintro _ ⟨⟩) (w_storeW (sz := 7) rfl rfl rfl rfl rfl rfl rfl rfl (Nat.le_of_ble_eq_true rfl)) ?_
      refine ao1 (by decide) (o_assign (v := .nsl) rfl) ?_
      refine ao1 (by decide) (o_assign (v := .int _ _) rfl) ?_
      refine ao_nil ?_
      try dsimp only [put, List.set_cons_zero]
      repeat (refine then_nrm ?_)
      refine aw_nslpl 3 rfl ?_
      refine aw_ret ?_
      exact e_done hB (r_cellR rfl (lk rfl rfl) rfl rfl rfl (r_tmp rfl (r_tmp rfl .nil))) rfl rfl
    · simp at hc; omega
  | ok x =>
  obtain ⟨l, b4⟩ := x
  rw [show got 0 0 b3 = .ok (l, b4) from hg] at cn
  rw [pb_ok hg] at hspec
  obtain ⟨hlt, hl62⟩ := got_rest (b := b3) hg
  repeat (first | refine then_nrm ?_ | refine aw_seq ?_)
  refine aw_region ?_
  refine ao1 (by decide) (o_move (v := .pl _) rfl) ?_
  refine ao1 (by decide) (o_slicepF (sz := 1) (l := 1) (ys := b3.map brow) rfl (.some rfl rfl) (by simp) (bytes_len1 _) rfl) ?_
  refine ao_ret (cn _) rfl (by decide) ?_
  refine ao1 (by decide) (o_move (v := .tup _) rfl) ?_
  refine ao1 (by decide) (o_extract (v := .int _ _) rfl rfl) ?_
  refine ao1 (by decide) (o_extract (v := .pl _) rfl rfl) ?_
  refine ao1 (by decide) (o_extract (v := .int _ _) rfl rfl) ?_
  refine ao1 (by decide) (o_assign (v := .int _ _) rfl) ?_
  refine ao1 (by decide) (o_assign (v := .pl _) rfl) ?_
  refine ao1 (by decide) (o_assign (v := .int _ _) rfl) ?_
  refine ao_nil ?_
  clear cn hg
  repeat (first | refine then_nrm ?_ | refine aw_seq ?_)
  refine aw_region ?_
  refine ao1 (by decide) (o_move (v := .int _ _) rfl) ?_
  refine ao1 (by decide) (o_ne rfl rfl) ?_
  refine ao_nil ?_
  repeat (refine then_nrm ?_)
  refine aw_cond rfl (fun hc => ?_) (fun hc => ?_)
  · simp at hc
  clear hc
  have cn := fun H => ref08_got b4 H (by omega)
  cases hg : gotf b4 with
  | error e0 =>
    have he := got_err23 _ _ hg
    rw [show got 0 0 b4 = .error e0 from hg] at cn
    rw [pb_err hg] at hspec
    rw [← hspec]
    repeat (first | refine then_nrm ?_ | refine aw_seq ?_ | refine aw_skip ?_)
    refine aw_region ?_
    refine ao1 (by decide) (o_move (v := .pl _) rfl) ?_
    refine ao_ret (cn _) rfl (by decide) ?_
    refine ao1 (by decide) (o_move (v := .tup _) rfl) ?_
    refine ao1 (by decide) (o_extract (v := .int _ _) rfl rfl) ?_
    refine ao1 (by decide) (o_extract (v := .pl _) rfl rfl) ?_
    refine ao1 (by decide) (o_extract (v := .int _ _) rfl rfl) ?_
    refine ao1 (by decide) (o_assign (v := .int _ _) rfl) ?_
    refine ao1 (by decide) (o_assign (v := .pl _) rfl) ?_
    refine ao1 (by decide) (o_assign (v := .int _ _) rfl) ?_
    refine ao_nil ?_
    repeat (first | refine then_nrm ?_ | refine aw_seq ?_)
    refine aw_region ?_
    refine ao1 (by decide) (o_move (v := .int _ _) rfl) ?_
    refine ao1 (by decide) (o_ne rfl rfl) ?_
    refine ao_nil ?_
    repeat (refine then_nrm ?_)
    refine aw_cond rfl (fun hc => ?_) (fun hc => ?_)
    · repeat (refine aw_seq ?_)
      refine aw_region ?_
      refine ao1 (by decide) (w_loadR rfl (lk rfl rfl) rfl rfl rfl) ?_
      refine ao1 (by decide) (o_move (v := .int _ _) rfl) ?_
      refine ao2 (by rintro _ ⟨⟩) (w_storeW (sz := 7) rfl rfl rfl rfl rfl rfl rfl rfl (Nat.le_of_ble_eq_true rfl)) ?_
      refine ao1 (by decide) (o_assign (v := .nsl) rfl) ?_
      refine ao1 (by decide) (o_assign (v := .int _ _) rfl) ?_
      refine ao_nil ?_
      try dsimp only [put, List.set_cons_zero]
      repeat (refine then_nrm ?_)
      refine aw_nslpl 3 rfl ?_
      refine aw_ret ?_
      exact e_done hB (r_cellR rfl (lk rfl rfl) rfl rfl rfl (r_tmp rfl (r_tmp rfl .nil))) rfl rfl
    · simp at hc; omega
  | ok x =>
  obtain ⟨p, b5⟩ := x
  rw [show got 0 0 b4 = .ok (p, b5) from hg] at cn
  rw [pb_ok hg] at hspec
  obtain ⟨hlt2, hp62⟩ := got_rest (b := b4) hg
  repeat (first | refine then_nrm ?_ | refine aw_seq ?_ | refine aw_skip ?_)
  refine aw_region ?_
  refine ao1 (by decide) (o_move (v := .pl _) rfl) ?_
  refine ao_ret (cn _) rfl (by decide) ?_
  refine ao1 (by decide) (o_move (v := .tup _) rfl) ?_
  refine ao1 (by decide) (o_extract (v := .int _ _) rfl rfl) ?_
  refine ao1 (by decide) (o_extract (v := .pl _) rfl rfl) ?_
  refine ao1 (by decide) (o_extract (v := .int _ _) rfl rfl) ?_
  refine ao1 (by decide) (o_assign (v := .int _ _) rfl) ?_
  refine ao1 (by decide) (o_assign (v := .pl _) rfl) ?_
  refine ao1 (by decide) (o_assign (v := .int _ _) rfl) ?_
  refine ao_nil ?_
  clear cn hg
  repeat (first | refine then_nrm ?_ | refine aw_seq ?_)
  refine aw_region ?_
  refine ao1 (by decide) (o_move (v := .int _ _) rfl) ?_
  refine ao1 (by decide) (o_ne rfl rfl) ?_
  refine ao_nil ?_
  repeat (refine then_nrm ?_)
  refine aw_cond rfl (fun hc => ?_) (fun hc => ?_)
  · simp at hc
  clear hc
  have hmod : ((p : Int)).tmod 2 = ((p % 2 : Nat) : Int) := by rw [Int.tmod_eq_emod_of_nonneg (by omega)]; omega
  have hdiv : ((p : Int)).tdiv 2 = ((p / 2 : Nat) : Int) := by rw [Int.tdiv_eq_ediv_of_nonneg (by omega)]; omega
  repeat (first | refine then_nrm ?_ | refine aw_seq ?_ | refine aw_skip ?_)
  refine aw_region ?_
  refine ao1 (by decide) (o_move (v := .int _ _) rfl) ?_
  refine ao1 (by decide) (o_quo (r := ((p / 2 : Nat) : Int)) rfl rfl (by decide) (by rw [hdiv]; exact u64_wrap _ (by omega))) ?_
  refine ao1 (by decide) (o_conv_int (r := ((p / 2 : Nat) : Int)) rfl (wrap64_ok (by omega) (by omega))) ?_
  refine ao1 (by decide) (o_assign (v := .int _ _) rfl) ?_
  refine ao_nil ?_
  repeat (first | refine then_nrm ?_ | refine aw_seq ?_)
  refine aw_region ?_
  refine ao1 (by decide) (o_move (v := .int _ _) rfl) ?_
  refine ao1 (by decide) (o_rem (r := ((p % 2 : Nat) : Int)) rfl rfl (by decide) (by rw [hmod])) ?_
  refine ao1 (by decide) (o_eq rfl rfl) ?_
  refine ao_nil ?_
  repeat (refine then_nrm ?_)
  refine aw_joinQ ([(0, .pl (b5.map brow)), (2, .pt (Lid H.length 0) 0 0 0), (5, .pt (Lid H.length 1) 0 0 0), (6, .pt (Lid H.length 2) 0 0 0), (11, .str t), (12, .bool on), (13, .int .u64 (l : Int)), (16, .int .i64 (zag p))]) (H ++ [⟨0, 7, [eSpec spec0]⟩, ⟨0, 7, [eSpec spec0]⟩, ⟨0, 4, [[.int .u64 (n : Int), .int .u64 (k : Int), .int .u64 (u : Int), .int .u64 (m : Int)]]⟩]) ?_ ?_
  · repeat (fail)
    refine aw_cond rfl (fun hc => ?_) (fun hc => ?_)
    · have ho : p % 2 = 1 := by simp at hc; omega
      have hz : zag p = -1 - ((p / 2 : Nat) : Int) := by unfold zag; rw [if_pos ho]
      rw [hz]
      refine aw_region ?_
      refine ao1 (by decide) (o_move (v := .int _ _) rfl) ?_
      refine ao1 (by decide) (o_sub (r := -1 - ((p / 2 : Nat) : Int)) rfl rfl (wrap64_ok (by omega) (by omega))) ?_
      refine ao1 (by decide) (o_assign (v := .int _ _) rfl) ?_
      refine ao_nil ?_
      exact join_nrm (by repeat (first | exact Sub.nil | refine Sub.cons (by rfl) ?_)) (.inl rfl)
    · have ho : ¬ p % 2 = 1 := by simp at hc; omega
      have hz : zag p = ((p / 2 : Nat) : Int) := by unfold zag; rw [if_neg ho]
      rw [hz]
      repeat (refine aw_skip ?_)
      exact join_nrm (by repeat (first | exact Sub.nil | refine Sub.cons (by rfl) ?_)) (.inl rfl)
  generalize zag p = z at hspec
  repeat (first | refine then_nrm ?_ | refine aw_seq ?_)
  refine aw_region ?_
  refine ao1 (by decide) (w_indexArr rfl (lk rfl rfl) rfl rfl (by omega) (by omega)) ?_
  refine ao1 (by decide) (w_load1 (v := .int _ _) rfl (lk rfl rfl) rfl rfl rfl) ?_
  refine ao1 (by decide) (o_conv_int (r := (n : Int)) rfl (wrap64_ok (by omega) (by omega))) ?_
  refine ao1 (by decide) (w_indexArr rfl (lk rfl rfl) rfl rfl (by omega) (by omega)) ?_
  refine ao1 (by decide) (w_load1 (v := .int _ _) rfl (lk rfl rfl) rfl rfl rfl) ?_
  refine ao1 (by decide) (o_conv_int (r := (k : Int)) rfl (wrap64_ok (by omega) (by omega))) ?_
  refine ao1 (by decide) (w_indexArr rfl (lk rfl rfl) rfl rfl (by omega) (by omega)) ?_
  refine ao1 (by decide) (w_load1 (v := .int _ _) rfl (lk rfl rfl) rfl rfl rfl) ?_
  refine ao1 (by decide) (o_conv_int (r := (u : Int)) rfl (wrap64_ok (by omega) (by omega))) ?_
  refine ao1 (by decide) (o_move (v := .str _) rfl) ?_
  refine ao1 (by decide) (o_move (v := .bool _) rfl) ?_
  refine ao1 (by decide) (o_move (v := .int _ _) rfl) ?_
  refine ao1 (by decide) (o_conv_int (r := (l : Int)) rfl (wrap64_ok (by omega) (by omega))) ?_
  refine ao1 (by decide) (o_move (v := .int _ _) rfl) ?_
  refine ao1 (by decide) (V1.up (o_build (cs := [.int _ _, .int _ _, .int _ _, .str _, .bool _, .int _ _, .int _ _]) rfl)) ?_
  refine ao2 (by rintro _ ⟨⟩; decide) (o_allocL (sz := 7) rfl (by decide) rfl) ?_
  refine ao2 (by rintro _ ⟨⟩) (w_storeW (sz := 7) rfl rfl rfl rfl rfl rfl rfl rfl (Nat.le_of_ble_eq_true rfl)) ?_
  refine ao_nil ?_
  try dsimp only [put, List.length_cons, List.length_nil, Nat.reduceAdd, AV.up, List.cons_append, List.nil_append, List.set_cons_zero, List.set_cons_succ]
  have cr := fun H => ref07_Right ⟨n, k, u, t, on, l, z⟩ H hts
  cases hs : sright ⟨n, k, u, t, on, l, z⟩ with
  | false =>
    rw [hs] at cr hspec
    rw [← hspec]
    repeat (first | refine then_nrm ?_ | refine aw_seq ?_)
    refine aw_region ?_
    refine ao1 (by decide) (w_loadR rfl (lk rfl rfl) rfl rfl rfl) ?_
    refine ao_ret (cr _) rfl (by decide) ?_
    refine ao1 (by decide) (o_not rfl) ?_
    refine ao_nil ?_
    repeat (refine then_nrm ?_)
    refine aw_cond rfl (fun hc => ?_) (fun hc => ?_)
    · repeat (refine aw_seq ?_)
      refine aw_region ?_
      refine ao1 (by decide) (w_loadR rfl (lk rfl rfl) rfl rfl rfl) ?_
      refine ao2 (by rintro _ ⟨⟩) (w_storeW (sz := 7) rfl rfl rfl rfl rfl rfl rfl rfl (Nat.le_of_ble_eq_true rfl)) ?_
      refine ao1 (by decide) (o_assign (v := .nsl) rfl) ?_
      refine ao1 (by decide) (o_assign (v := .int _ _) rfl) ?_
      refine ao_nil ?_
      try dsimp only [put, List.set_cons_zero]
      repeat (refine then_nrm ?_)
      refine aw_nslpl 3 rfl ?_
      refine aw_ret ?_
      exact e_done hB (r_cellR rfl (lk rfl rfl) rfl rfl rfl (r_tmp rfl (r_tmp rfl .nil))) rfl rfl
    · simp at hc
  | true =>
    rw [hs] at cr hspec
    rw [← hspec]
    repeat (first | refine then_nrm ?_ | refine aw_seq ?_)
    refine aw_region ?_
    refine ao1 (by decide) (w_loadR rfl (lk rfl rfl) rfl rfl rfl) ?_
    refine ao_ret (cr _) rfl (by decide) ?_
    refine ao1 (by decide) (o_not rfl) ?_
    refine ao_nil ?_
    repeat (refine then_nrm ?_)
    refine aw_cond rfl (fun hc => ?_) (fun hc => ?_)
    · simp at hc
    repeat (first | refine then_nrm ?_ | refine aw_seq ?_ | refine aw_skip ?_)
    refine aw_region ?_
    refine ao1 (by decide) (w_loadR rfl (lk rfl rfl) rfl rfl rfl) ?_
    refine ao1 (by decide) (o_move (v := .pl _) rfl) ?_
    refine ao2 (by rintro _ ⟨⟩) (w_storeW (sz := 7) rfl rfl rfl rfl rfl rfl rfl rfl (Nat.le_of_ble_eq_true rfl)) ?_
    refine ao1 (by decide) (o_assign (v := .pl _) rfl) ?_
    refine ao1 (by decide) (o_assign (v := .int _ _) rfl) ?_
    refine ao_nil ?_
    try dsimp only [put, List.set_cons_zero]
    repeat (first | refine then_nrm ?_ | refine aw_ret ?_)
    exact e_done hB (r_cellR rfl (lk rfl rfl) rfl rfl rfl (r_tmp rfl (r_tmp rfl .nil))) rfl rfl
end Go.Av

namespace Go.Av
open Go.Proofs
set_option maxRecDepth 10000
set_option linter.unusedSimpArgs false
set_option linter.unusedVariables false

set_option maxHeartbeats 0 in
theorem ref08_ReadSpec (b : List UInt8) (H : Heap) : AC Try.prog 30 [.pl (b.map brow)] H (Ret (.tup [.agg (eSpec (readSpec b).1), .int .i64 (readSpec b).2]) H) := by
  refine AC.body (N := 27) [.cell 2 23, .tmp 3] Try.func30 rfl rfl rfl (Nat.le_of_ble_eq_true rfl) fun B hB => ?_
  repeat (refine aw_seq ?_)
  refine aw_region ?_
  refine ao2 (by rintro _ ⟨⟩; decide) (o_allocL (sz := 7) rfl (by decide) rfl) ?_
  refine ao1 (by decide) (o_assign (v := .int _ _) rfl) ?_
  refine ao_nil ?_
  try dsimp only [List.length_nil, put, List.nil_append]
  repeat (first | refine then_nrm ?_ | refine aw_seq ?_)
  refine aw_region ?_
  refine ao1 (by decide) (o_move (v := .pl _) rfl) ?_
  refine ao1 (by decide) (o_lenp rfl) ?_
  refine ao1 (by decide) (o_gt rfl rfl) ?_
  refine ao_nil ?_
  by_cases hb : 65536 < b.length
  · rw [show readSpec b = (spec0, 4) by rw [readSpec, if_pos hb]]
    repeat (refine then_nrm ?_)
    refine aw_cond rfl (fun hc => ?_) (fun hc => ?_)
    · repeat (refine aw_seq ?_)
      refine aw_region ?_
      refine ao1 (by decide) (V1.up (o_build (cs := [.int _ _, .int _ _, .int _ _, .str _, .bool _, .int _ _, .int _ _]) rfl)) ?_
      refine ao2 (by rintro _ ⟨⟩) (w_storeW (sz := 7) rfl rfl rfl rfl rfl rfl rfl rfl (Nat.le_of_ble_eq_true rfl)) ?_
      refine ao1 (by decide) (o_assign (v := .int _ _) rfl) ?_
      refine ao_nil ?_
      try dsimp only [AV.up, put, List.set_cons_zero]
      repeat (first | refine then_nrm ?_ | refine then_ret ?_ | refine aw_ret ?_)
      exact e_done hB (r_cellR rfl (lk rfl rfl) rfl rfl rfl (r_tmp rfl .nil)) rfl rfl
    · exfalso; simp at hc; omega
  repeat (refine then_nrm ?_)
  refine aw_cond rfl (fun hc => ?_) (fun hc => ?_)
  · exfalso; simp at hc; omega
  have cs := fun H => ref08_spec b H (by omega)
  cases hr : rspec b with
  | error e =>
    have he := rspec_err23 _ _ hr
    rw [show readSpec b = (spec0, e) by rw [readSpec, if_neg hb, hr]]
    rw [hr] at cs
    repeat (first | refine then_nrm ?_ | refine aw_seq ?_ | refine aw_skip ?_)
    refine aw_region ?_
    refine ao1 (by decide) (o_move (v := .pl _) rfl) ?_
    refine ao_ret (cs _) rfl (by decide) ?_
    refine ao1 (by decide) (o_move (v := .tup _) rfl) ?_
    refine ao1 (by decide) (o_extract (v := .agg _) rfl rfl) ?_
    refine ao1 (by decide) (o_extract (v := .pl _) rfl rfl) ?_
    refine ao1 (by decide) (o_extract (v := .int _ _) rfl rfl) ?_
    refine ao2 (by rintro _ ⟨⟩; decide) (o_allocL (sz := 7) rfl (by decide) rfl) ?_
    refine ao2 (by rintro _ ⟨⟩) (w_storeW (sz := 7) rfl rfl rfl rfl rfl rfl rfl rfl (Nat.le_of_ble_eq_true rfl)) ?_
    refine ao1 (by decide) (o_assign (v := .pl _) rfl) ?_
    refine ao1 (by decide) (o_assign (v := .int _ _) rfl) ?_
    refine ao_nil ?_
    try dsimp only [List.length_cons, List.length_nil, Nat.reduceAdd, put, List.cons_append, List.nil_append, List.set_cons_zero, List.set_cons_succ]
    repeat (first | refine then_nrm ?_ | refine aw_seq ?_)
    refine aw_out 23 (.bool false) ?_ ?_
    · refine ao1 (by decide) (o_move (v := .int _ _) rfl) ?_
      refine ao1 (by decide) (o_eq rfl rfl) ?_
      refine ao1 (by decide) (o_move (v := .bool _) rfl) ?_
      refine ao_split rfl rfl (fun hg2 => ?_) (fun hg2 => ?_)
      · refine ao_y1 rfl rfl (by decide) (o_move (v := .pl _) rfl) ?_
        refine ao_y1 rfl rfl (by decide) (o_lenp rfl) ?_
        refine ao_y1 rfl rfl (by decide) (o_gt rfl rfl) ?_
        refine ao1 (by decide) (o_pick_t (v := .bool _) rfl rfl) ?_
        exact ao_nil (Out.mk (by rfl) (by repeat (first | exact SubX.refl _ _ | refine SubX.at ?_ | refine SubX.put rfl ?_)))
      · refine ao_nT rfl rfl (by decide) ?_
        refine ao_nT rfl rfl (by decide) ?_
        refine ao_nT rfl rfl (by decide) ?_
        refine ao1 (by decide) (o_pick_f (v := .bool _) rfl rfl) ?_
        exact ao_nil (Out.mk (by rfl) (by repeat (first | exact SubX.refl _ _ | refine SubX.at ?_ | refine SubX.put rfl ?_)))
    repeat (refine then_nrm ?_)
    refine aw_cond rfl (fun hc => ?_) (fun hc => ?_)
    · cases hc
    · repeat (first | refine then_nrm ?_ | refine aw_seq ?_ | refine aw_skip ?_)
      refine aw_region ?_
      refine ao1 (by decide) (w_loadR rfl (lk rfl rfl) rfl rfl rfl) ?_
      refine ao1 (by decide) (o_move (v := .int _ _) rfl) ?_
      refine ao2 (by rintro _ ⟨⟩) (w_storeW (sz := 7) rfl rfl rfl rfl rfl rfl rfl rfl (Nat.le_of_ble_eq_true rfl)) ?_
      refine ao1 (by decide) (o_assign (v := .int _ _) rfl) ?_
      refine ao_nil ?_
      try dsimp only [put, List.set_cons_zero]
      repeat (first | refine then_nrm ?_ | refine aw_ret ?_)
      exact e_done hB (r_cellR rfl (lk rfl rfl) rfl rfl rfl (r_tmp rfl .nil)) rfl rfl
  | ok y =>
    obtain ⟨s, r⟩ := y
    rw [hr] at cs
    cases r with
    | nil =>
      rw [show readSpec b = (s, 0) by rw [readSpec, if_neg hb, hr]; rfl]
      repeat (first | refine then_nrm ?_ | refine aw_seq ?_ | refine aw_skip ?_)
      refine aw_region ?_
      refine ao1 (by decide) (o_move (v := .pl _) rfl) ?_
      refine ao_ret (cs _) rfl (by decide) ?_
      refine ao1 (by decide) (o_move (v := .tup _) rfl) ?_
      refine ao1 (by decide) (o_extract (v := .agg _) rfl rfl) ?_
      refine ao1 (by decide) (o_extract (v := .pl _) rfl rfl) ?_
      refine ao1 (by decide) (o_extract (v := .int _ _) rfl rfl) ?_
      refine ao2 (by rintro _ ⟨⟩; decide) (o_allocL (sz := 7) rfl (by decide) rfl) ?_
      refine ao2 (by rintro _ ⟨⟩) (w_storeW (sz := 7) rfl rfl rfl rfl rfl rfl rfl rfl (Nat.le_of_ble_eq_true rfl)) ?_
      refine ao1 (by decide) (o_assign (v := .pl _) rfl) ?_
      refine ao1 (by decide) (o_assign (v := .int _ _) rfl) ?_
      refine ao_nil ?_
      try dsimp only [List.length_cons, List.length_nil, Nat.reduceAdd, put, List.cons_append, List.nil_append, List.set_cons_zero, List.set_cons_succ]
      repeat (first | refine then_nrm ?_ | refine aw_seq ?_)
      refine aw_out 23 (.bool false) ?_ ?_
      · refine ao1 (by decide) (o_move (v := .int _ _) rfl) ?_
        refine ao1 (by decide) (o_eq rfl rfl) ?_
        refine ao1 (by decide) (o_move (v := .bool _) rfl) ?_
        refine ao_split rfl rfl (fun hg2 => ?_) (fun hg2 => ?_)
        · refine ao_y1 rfl rfl (by decide) (o_move (v := .pl _) rfl) ?_
          refine ao_y1 rfl rfl (by decide) (o_lenp rfl) ?_
          refine ao_y1 rfl rfl (by decide) (o_gt rfl rfl) ?_
          refine ao1 (by decide) (o_pick_t (v := .bool _) rfl rfl) ?_
          exact ao_nil (Out.mk (by rfl) (by repeat (first | exact SubX.refl _ _ | refine SubX.at ?_ | refine SubX.put rfl ?_)))
        · refine ao_nT rfl rfl (by decide) ?_
          refine ao_nT rfl rfl (by decide) ?_
          refine ao_nT rfl rfl (by decide) ?_
          refine ao1 (by decide) (o_pick_f (v := .bool _) rfl rfl) ?_
          exact ao_nil (Out.mk (by rfl) (by repeat (first | exact SubX.refl _ _ | refine SubX.at ?_ | refine SubX.put rfl ?_)))
      repeat (refine then_nrm ?_)
      refine aw_cond rfl (fun hc => ?_) (fun hc => ?_)
      · cases hc
      · repeat (first | refine then_nrm ?_ | refine aw_seq ?_ | refine aw_skip ?_)
        refine aw_region ?_
        refine ao1 (by decide) (w_loadR rfl (lk rfl rfl) rfl rfl rfl) ?_
        refine ao1 (by decide) (o_move (v := .int _ _) rfl) ?_
        refine ao2 (by rintro _ ⟨⟩) (w_storeW (sz := 7) rfl rfl rfl rfl rfl rfl rfl rfl (Nat.le_of_ble_eq_true rfl)) ?_
        refine ao1 (by decide) (o_assign (v := .int _ _) rfl) ?_
        refine ao_nil ?_
        try dsimp only [put, List.set_cons_zero]
        repeat (first | refine then_nrm ?_ | refine aw_ret ?_)
        exact e_done hB (r_cellR rfl (lk rfl rfl) rfl rfl rfl (r_tmp rfl .nil)) rfl rfl
    | cons c r =>
      rw [show readSpec b = (spec0, 3) by rw [readSpec, if_neg hb, hr]; rfl]
      repeat (first | refine then_nrm ?_ | refine aw_seq ?_ | refine aw_skip ?_)
      refine aw_region ?_
      refine ao1 (by decide) (o_move (v := .pl _) rfl) ?_
      refine ao_ret (cs _) rfl (by decide) ?_
      refine ao1 (by decide) (o_move (v := .tup _) rfl) ?_
      refine ao1 (by decide) (o_extract (v := .agg _) rfl rfl) ?_
      refine ao1 (by decide) (o_extract (v := .pl _) rfl rfl) ?_
      refine ao1 (by decide) (o_extract (v := .int _ _) rfl rfl) ?_
      refine ao2 (by rintro _ ⟨⟩; decide) (o_allocL (sz := 7) rfl (by decide) rfl) ?_
      refine ao2 (by rintro _ ⟨⟩) (w_storeW (sz := 7) rfl rfl rfl rfl rfl rfl rfl rfl (Nat.le_of_ble_eq_true rfl)) ?_
      refine ao1 (by decide) (o_assign (v := .pl _) rfl) ?_
      refine ao1 (by decide) (o_assign (v := .int _ _) rfl) ?_
      refine ao_nil ?_
      try dsimp only [List.length_cons, List.length_nil, Nat.reduceAdd, put, List.cons_append, List.nil_append, List.set_cons_zero, List.set_cons_succ]
      repeat (first | refine then_nrm ?_ | refine aw_seq ?_)
      refine aw_out 23 (.bool true) ?_ ?_
      · refine ao1 (by decide) (o_move (v := .int _ _) rfl) ?_
        refine ao1 (by decide) (o_eq rfl rfl) ?_
        refine ao1 (by decide) (o_move (v := .bool _) rfl) ?_
        refine ao_split rfl rfl (fun hg2 => ?_) (fun hg2 => ?_)
        · refine ao_y1 rfl rfl (by decide) (o_move (v := .pl _) rfl) ?_
          refine ao_y1 rfl rfl (by decide) (o_lenp rfl) ?_
          refine ao_y1 rfl rfl (by decide) (o_gt rfl rfl) ?_
          refine ao1 (by decide) (o_pick_t (v := .bool _) rfl rfl) ?_
          exact ao_nil (Out.mk (by (refine congrArg AV.bool ?_; (clear cs; (simp_all; done)))) (by repeat (first | exact SubX.refl _ _ | refine SubX.at ?_ | refine SubX.put rfl ?_)))
        · refine ao_nT rfl rfl (by decide) ?_
          refine ao_nT rfl rfl (by decide) ?_
          refine ao_nT rfl rfl (by decide) ?_
          refine ao1 (by decide) (o_pick_f (v := .bool _) rfl rfl) ?_
          exact ao_nil (Out.mk (by (refine congrArg AV.bool ?_; (clear cs; (simp_all; done)))) (by repeat (first | exact SubX.refl _ _ | refine SubX.at ?_ | refine SubX.put rfl ?_)))
      repeat (refine then_nrm ?_)
      refine aw_cond rfl (fun hc => ?_) (fun hc => ?_)
      · repeat (refine aw_seq ?_)
        refine aw_region ?_
        refine ao1 (by decide) (V1.up (o_build (cs := [.int _ _, .int _ _, .int _ _, .str _, .bool _, .int _ _, .int _ _]) rfl)) ?_
        refine ao2 (by rintro _ ⟨⟩) (w_storeW (sz := 7) rfl rfl rfl rfl rfl rfl rfl rfl (Nat.le_of_ble_eq_true rfl)) ?_
        refine ao1 (by decide) (o_assign (v := .int _ _) rfl) ?_
        refine ao_nil ?_
        try dsimp only [AV.up, put, List.set_cons_zero]
        repeat (first | refine then_nrm ?_ | refine then_ret ?_ | refine aw_ret ?_)
        exact e_done hB (r_cellR rfl (lk rfl rfl) rfl rfl rfl (r_tmp rfl .nil)) rfl rfl
      · cases hc
/-! ### lists of parts -/
abbrev eB (p : List UInt8) : List AV := [.pl (p.map brow)]
theorem eB_len (l : List (List UInt8)) : ∀ r ∈ l.map eB, r.length = 1 := rows_len (e := eB) (n := 1) (fun _ => rfl) l
theorem eB_bel (n : Nat) (l : List (List UInt8)) : ∀ r ∈ l.map eB, AV.bels n r = true := rows_bel (e := eB) (fun _ => rfl) l
def short (l : List (List UInt8)) : Bool := decide (l.length ≤ 60) && l.all fun p => decide (p.length ≤ 300)
theorem ref08_Short (l : List (List UInt8)) (H : Heap) : AC Try.prog 11 [.pl (l.map eB)] H (Ret (.bool (short l)) H) := by
  refine AC.body (N := 19) [.tmp 2] Try.func11 rfl rfl rfl (Nat.le_of_ble_eq_true rfl) fun B hB => ?_
  repeat (refine aw_seq ?_)
  refine aw_region ?_
  refine ao1 (by decide) (o_assign (v := .bool _) rfl) ?_
  refine ao_nil ?_
  repeat (first | refine then_nrm ?_ | refine aw_seq ?_)
  refine aw_region ?_
  refine ao1 (by decide) (o_move (v := .pl _) rfl) ?_
  refine ao1 (by decide) (o_lenp rfl) ?_
  refine ao1 (by decide) (o_gt rfl rfl) ?_
  refine ao_nil ?_
  repeat (refine then_nrm ?_)
  refine aw_cond rfl (fun hc => ?_) (fun hc => ?_)
  · have h1 : ¬ l.length ≤ 60 := by simp at hc; omega
    rw [show short l = false by simp [short, h1]]
    repeat (refine aw_seq ?_)
    refine aw_region ?_
    refine ao1 (by decide) (o_assign (v := .bool _) rfl) ?_
    refine ao_nil ?_
    repeat (first | refine then_nrm ?_ | refine then_ret ?_ | refine aw_ret ?_)
    exact e_done hB (r_tmp rfl .nil) rfl rfl
  have h60 : l.length ≤ 60 := by simp at hc; omega
  clear hc
  repeat (first | refine then_nrm ?_ | refine aw_seq ?_ | refine aw_skip ?_)
  refine aw_region ?_
  refine ao1 (by decide) (o_assign (v := .int _ _) rfl) ?_
  refine ao_nil ?_
  repeat (first | refine then_nrm ?_ | refine aw_block ?_)
  refine aw_loop (G := Nat) (fun k => k ≤ l.length ∧ ∀ i, i < k → ∀ p, l[i]? = some p → p.length ≤ 300) (fun k => [(0, .pl (l.map eB)), (3, .int .i64 (k : Int))]) (fun _ => H ++ []) (fun k => l.length - k) 0 ⟨Nat.zero_le _, fun i hi => absurd hi (Nat.not_lt_zero _)⟩ (by repeat (first | exact Sub.nil | refine Sub.cons (by rfl) ?_)) (.inl rfl) ?_
  rintro k ⟨hk, hall⟩
  repeat (refine aw_seq ?_)
  refine aw_region ?_
  refine ao1 (by decide) (o_move (v := .int _ _) rfl) ?_
  refine ao1 (by decide) (o_move (v := .pl _) rfl) ?_
  refine ao1 (by decide) (o_lenp rfl) ?_
  refine ao1 (by decide) (o_lt rfl rfl) ?_
  refine ao_nil ?_
  repeat (refine then_nrm ?_)
  refine aw_cond rfl (fun hc => ?_) (fun hc => ?_)
  · have hlt : k < l.length := by simp at hc; omega
    obtain ⟨p, hp, _⟩ := get_in hlt
    have hr := map_get eB hp
    repeat (first | refine then_nrm ?_ | refine aw_seq ?_ | refine aw_block ?_ | refine aw_skip ?_)
    refine aw_region ?_
    refine ao1 (by decide) (o_move (v := .pl _) rfl) ?_
    refine ao1 (by decide) (o_move (v := .int _ _) rfl) ?_
    refine ao1 (by decide) (w_indexAddrpN rfl rfl hr rfl) ?_
    refine ao1 (by decide) (o_load1p (v := .pl _) rfl hr rfl) ?_
    refine ao1 (by decide) (o_lenp rfl) ?_
    refine ao1 (by decide) (o_gt rfl rfl) ?_
    refine ao_nil ?_
    repeat (refine then_nrm ?_)
    refine aw_cond rfl (fun hc => ?_) (fun hc => ?_)
    · have h1 : ¬ p.length ≤ 300 := by simp at hc; omega
      rw [show short l = false by
        rw [short, Bool.and_eq_false_iff]
        refine .inr (Bool.eq_false_iff.2 fun h => h1 ?_)
        exact of_decide_eq_true (List.all_eq_true.1 h p (List.mem_of_getElem? hp))]
      repeat (refine aw_seq ?_)
      refine aw_region ?_
      refine ao1 (by decide) (o_assign (v := .bool _) rfl) ?_
      refine ao_nil ?_
      repeat (first | refine then_nrm ?_ | refine then_ret ?_ | refine blk_ret ?_ | refine aw_ret ?_)
      exact e_done hB (r_tmp rfl .nil) rfl rfl
    · have hp3 : p.length ≤ 300 := by simp at hc; omega
      repeat (first | refine then_nrm ?_ | refine blk_nrm ?_ | refine aw_skip ?_)
      refine aw_region ?_
      refine ao1 (by decide) (o_move (v := .int _ _) rfl) ?_
      refine ao1 (by decide) (o_add (r := ((k + 1 : Nat) : Int)) rfl rfl (wrap64_ok (by omega) (by omega))) ?_
      refine ao1 (by decide) (o_assign (v := .int _ _) rfl) ?_
      refine ao_nil ?_
      repeat (refine then_nrm ?_)
      refine ⟨k + 1, by omega, ⟨by omega, fun i hi q hq => ?_⟩, (by repeat (first | exact Sub.nil | refine Sub.cons (by rfl) ?_)), .inl rfl⟩
      rcases Nat.lt_or_ge i k with h1 | h1
      · exact hall i h1 q hq
      · have : i = k := by omega
        subst this
        rw [hp] at hq; cases hq; exact hp3
  · have hke : k = l.length := by simp at hc; omega
    subst hke
    rw [show short l = true by
      rw [short, Bool.and_eq_true]
      refine ⟨decide_eq_true h60, List.all_eq_true.2 fun p hp => decide_eq_true ?_⟩
      obtain ⟨i, hi, e⟩ := List.mem_iff_getElem.1 hp
      exact hall i hi p (by rw [List.getElem?_eq_getElem hi, e])]
    repeat (first | refine then_nrm ?_ | refine then_brk ?_ | refine blk_hit ?_ | refine aw_seq ?_ | refine aw_exit ?_)
    refine aw_region ?_
    refine ao1 (by decide) (o_assign (v := .bool _) rfl) ?_
    refine ao_nil ?_
    repeat (first | refine then_nrm ?_ | refine aw_ret ?_)
    exact e_done hB (r_tmp rfl .nil) rfl rfl
set_option maxHeartbeats 0 in
theorem ref08_Same (a b : List (List UInt8)) (H : Heap) (ha : a.length ≤ 1000000) : AC Try.prog 21 [.pl (a.map eB), .pl (b.map eB)] H (Ret (.bool (decide (a = b))) H) := by
  refine AC.body (N := 28) [.tmp 4] Try.func21 rfl rfl rfl (Nat.le_of_ble_eq_true rfl) fun B hB => ?_
  repeat (refine aw_seq ?_)
  refine aw_region ?_
  refine ao1 (by decide) (o_assign (v := .bool _) rfl) ?_
  refine ao_nil ?_
  repeat (first | refine then_nrm ?_ | refine aw_seq ?_)
  refine aw_region ?_
  refine ao1 (by decide) (o_move (v := .pl _) rfl) ?_
  refine ao1 (by decide) (o_lenp rfl) ?_
  refine ao1 (by decide) (o_move (v := .pl _) rfl) ?_
  refine ao1 (by decide) (o_lenp rfl) ?_
  refine ao1 (by decide) (o_ne rfl rfl) ?_
  refine ao_nil ?_
  repeat (refine then_nrm ?_)
  refine aw_cond rfl (fun hc => ?_) (fun hc => ?_)
  · have hn : a.length ≠ b.length := by simp at hc; omega
    rw [show decide (a = b) = false by simp; intro e; exact hn (congrArg List.length e)]
    repeat (refine aw_seq ?_)
    refine aw_region ?_
    refine ao1 (by decide) (o_assign (v := .bool _) rfl) ?_
    refine ao_nil ?_
    repeat (first | refine then_nrm ?_ | refine then_ret ?_ | refine aw_ret ?_)
    exact e_done hB (r_tmp rfl .nil) rfl rfl
  have hn : a.length = b.length := by simp at hc; omega
  clear hc
  repeat (first | refine then_nrm ?_ | refine aw_seq ?_ | refine aw_skip ?_)
  refine aw_region ?_
  refine ao1 (by decide) (o_assign (v := .int _ _) rfl) ?_
  refine ao_nil ?_
  repeat (first | refine then_nrm ?_ | refine aw_block ?_)
  refine aw_loop (G := Nat) (fun k => k ≤ a.length ∧ a.take k = b.take k) (fun k => [(0, .pl (a.map eB)), (1, .pl (b.map eB)), (5, .int .i64 (k : Int))]) (fun _ => H ++ []) (fun k => a.length - k) 0 ⟨Nat.zero_le _, by simp⟩ (by repeat (first | exact Sub.nil | refine Sub.cons (by rfl) ?_)) (.inl rfl) ?_
  rintro k ⟨hk, he⟩
  repeat (refine aw_seq ?_)
  refine aw_region ?_
  refine ao1 (by decide) (o_move (v := .int _ _) rfl) ?_
  refine ao1 (by decide) (o_move (v := .pl _) rfl) ?_
  refine ao1 (by decide) (o_lenp rfl) ?_
  refine ao1 (by decide) (o_lt rfl rfl) ?_
  refine ao_nil ?_
  repeat (refine then_nrm ?_)
  refine aw_cond rfl (fun hc => ?_) (fun hc => ?_)
  · have hlt : k < a.length := by simp at hc; omega
    obtain ⟨x, hx, _⟩ := get_in hlt
    obtain ⟨y, hy, _⟩ := get_in (l := b) (k := k) (by omega)
    have hr := map_get eB hx
    have hr1 := map_get eB hy
    repeat (first | refine then_nrm ?_ | refine aw_seq ?_ | refine aw_block ?_ | refine aw_skip ?_)
    refine aw_drawP mixed none 999 ?_
    refine aq0 0 rfl (by decide +kernel) (by decide) (fun _ => o_move (v := .pl _) rfl) ?_
    refine aq0 1 rfl (by decide +kernel) (by decide) (fun _ => o_move (v := .int _ _) rfl) ?_
    refine aqp 2 rfl (by decide +kernel) (by decide) (fun G => w_indexAddrpN rfl rfl hr rfl) ?_
    refine aqp 3 rfl (by decide +kernel) (by decide) (fun G => o_load1p (v := .pl _) rfl hr rfl) ?_
    refine aq0 4 rfl (by decide +kernel) (by decide) (fun _ => o_bytesStr (bs := x) rfl) ?_
    refine aq0 5 rfl (by decide +kernel) (by decide) (fun _ => o_move (v := .pl _) rfl) ?_
    refine aq0 6 rfl (by decide +kernel) (by decide) (fun _ => o_move (v := .int _ _) rfl) ?_
    refine aqp 7 rfl (by decide +kernel) (by decide) (fun G => w_indexAddrpN rfl rfl hr1 rfl) ?_
    refine aqp 8 rfl (by decide +kernel) (by decide) (fun G => o_load1p (v := .pl _) rfl hr1 rfl) ?_
    refine aq0 9 rfl (by decide +kernel) (by decide) (fun _ => o_bytesStr (bs := y) rfl) ?_
    refine aq0 10 rfl (by decide +kernel) (by decide) (fun _ => o_sned rfl rfl) ?_
    refine aa_done (by decide +kernel) (by exact fun _ => ⟨_, rfl⟩) ?_
    repeat (refine then_nrm ?_)
    refine aw_cond rfl (fun hc => ?_) (fun hc => ?_)
    · have hxy : x ≠ y := by rintro rfl; simp at hc
      rw [show decide (a = b) = false by simp; exact ne_at hx hy hxy]
      repeat (refine aw_seq ?_)
      refine aw_region ?_
      refine ao1 (by decide) (o_assign (v := .bool _) rfl) ?_
      refine ao_nil ?_
      repeat (first | refine then_nrm ?_ | refine then_ret ?_ | refine blk_ret ?_ | refine aw_ret ?_)
      exact e_done hB (r_tmp rfl .nil) rfl rfl
    · have hxy : x = y := by simpa using hc
      subst hxy
      repeat (first | refine then_nrm ?_ | refine blk_nrm ?_ | refine aw_skip ?_)
      refine aw_region ?_
      refine ao1 (by decide) (o_move (v := .int _ _) rfl) ?_
      refine ao1 (by decide) (o_add (r := ((k + 1 : Nat) : Int)) rfl rfl (wrap64_ok (by omega) (by omega))) ?_
      refine ao1 (by decide) (o_assign (v := .int _ _) rfl) ?_
      refine ao_nil ?_
      repeat (refine then_nrm ?_)
      exact ⟨k + 1, by omega, ⟨by omega, eq_step hx hy he⟩, (by repeat (first | exact Sub.nil | refine Sub.cons (by rfl) ?_)), .inl rfl⟩
  · have : k = a.length := by simp at hc; omega
    subst this
    rw [show decide (a = b) = true by simp; exact eq_done hn he]
    repeat (first | refine then_nrm ?_ | refine then_brk ?_ | refine blk_hit ?_ | refine aw_seq ?_ | refine aw_exit ?_)
    refine aw_region ?_
    refine ao1 (by decide) (o_assign (v := .bool _) rfl) ?_
    refine ao_nil ?_
    repeat (first | refine then_nrm ?_ | refine aw_ret ?_)
    exact e_done hB (r_tmp rfl .nil) rfl rfl
end Go.Av

namespace Go.Av
open Go.Proofs
set_option maxRecDepth 10000
set_option linter.unusedSimpArgs false
set_option linter.unusedVariables false

theorem okPart_len {p : List UInt8} (h : okPart p = true) : p.length ≤ 65536 := by
  rcases Nat.lt_or_ge 65536 p.length with h1 | h1
  · exfalso
    rw [okPart, readSpec, if_pos h1, readSet, if_pos h1] at h
    simp at h
  · exact h1
theorem okTake_len {l : List (List UInt8)} : ∀ k, (∀ i, i < k → ∀ p, l[i]? = some p → okPart p = true) → ((l.take k).flatten).length ≤ 65536 * k
  | 0, _ => by simp
  | k + 1, h => by
    have ih := okTake_len k fun i hi => h i (by omega)
    cases hk : l[k]? with
    | none =>
      rw [List.take_of_length_le (by have := List.getElem?_eq_none_iff.1 hk; omega)]
      rw [List.take_of_length_le (by have := List.getElem?_eq_none_iff.1 hk; omega)] at ih
      omega
    | some p =>
      have := okPart_len (h k (by omega) p hk)
      rw [take_snoc_get hk, List.flatten_append, List.length_append, List.flatten_singleton]
      omega
theorem ok_all {l : List (List UInt8)} (h : ∀ i, i < l.length → ∀ p, l[i]? = some p → okPart p = true) : l.all okPart = true := List.all_eq_true.2 fun p hp => by
  obtain ⟨i, hi, e⟩ := List.mem_iff_getElem.1 hp
  exact h i hi p (by rw [List.getElem?_eq_getElem hi, e])
theorem ok_not {l : List (List UInt8)} {k : Nat} {p : List UInt8} (hp : l[k]? = some p) (h : okPart p = false) : l.all okPart = false := by
  rw [Bool.eq_false_iff]
  intro h1
  rw [List.all_eq_true.1 h1 p (List.mem_of_getElem? hp)] at h
  cases h
set_option maxHeartbeats 0 in
theorem code_List (l : List (List UInt8)) (hl : l.length ≤ 1000000) (H : Heap) : AC Try.prog 14 [.pl (l.map eB)] H (Ret (.tup [.pl ((putList l).1.map brow), .int .i64 (putList l).2]) H) := by
  refine AC.body (N := 46) [.tmp 2, .tmp 3] Try.func14 rfl rfl rfl (Nat.le_of_ble_eq_true rfl) fun B hB => ?_
  repeat (refine aw_seq ?_)
  refine aw_region ?_
  refine ao1 (by decide) (o_assign (v := .nsl) rfl) ?_
  refine ao1 (by decide) (o_assign (v := .int _ _) rfl) ?_
  refine ao_nil ?_
  repeat (first | refine then_nrm ?_ | refine aw_seq ?_)
  refine aw_region ?_
  refine ao1 (by decide) (o_move (v := .pl _) rfl) ?_
  refine ao1 (by decide) (o_lenp rfl) ?_
  refine ao1 (by decide) (o_gt rfl rfl) ?_
  refine ao_nil ?_
  repeat (refine then_nrm ?_)
  refine aw_cond rfl (fun hc => ?_) (fun hc => ?_)
  · have h1 : 1000 < l.length := by simp at hc; omega
    rw [show putList l = ([], 4) by rw [putList, if_pos h1]]
    repeat (refine aw_seq ?_)
    refine aw_region ?_
    refine ao1 (by decide) (o_assign (v := .nsl) rfl) ?_
    refine ao1 (by decide) (o_assign (v := .int _ _) rfl) ?_
    refine ao_nil ?_
    try dsimp only
    repeat (refine then_nrm ?_)
    refine aw_nslpl 2 rfl ?_
    refine aw_ret ?_
    exact e_done hB (r_tmp rfl (r_tmp rfl .nil)) rfl rfl
  have h1 : ¬ 1000 < l.length := by simp at hc; omega
  clear hc
  have hn10 := numB_10 (n := l.length) (by omega)
  repeat (first | refine then_nrm ?_ | refine aw_seq ?_ | refine aw_skip ?_)
  refine aw_region ?_
  refine ao2 (by rintro _ ⟨⟩; decide) (o_buildSlice1L (sz := 1) (v := .int _ _) rfl (by decide) (by decide) rfl rfl rfl rfl rfl) ?_
  refine ao1 (by decide) (o_move (v := .pl _) rfl) ?_
  refine ao1 (by decide) (o_lenp rfl) ?_
  refine ao1 (by decide) (o_conv_int (r := (l.length : Int)) rfl (by rw [List.length_map]; exact u64_wrap _ (by omega))) ?_
  refine ao2 (by rintro _ ⟨⟩; decide) (V2.callo3 (k := 0) (code_number [3] l.length (by omega) _ (Lid H.length 0) 0 (by simp) (lk rfl rfl)) rfl rfl) ?_
  refine ao1 (by decide) (o_assign (v := .sl _ _ _ _ _) rfl) ?_
  refine ao_nil ?_
  try dsimp only [List.length_cons, List.length_nil, Nat.reduceAdd, put, AV.cells, List.nil_append, List.cons_append, List.set_cons_zero]
  repeat (first | refine then_nrm ?_ | refine aw_seq ?_)
  refine aw_region ?_
  refine ao1 (by decide) (o_move (v := .pl _) rfl) ?_
  refine ao1 (by decide) (o_lenp rfl) ?_
  refine ao1 (by decide) (o_move (v := .int _ _) rfl) ?_
  refine ao_nil ?_
  obtain ⟨b0, hb0⟩ : ∃ b0 : List UInt8, [3] ++ numB l.length = b0 := ⟨_, rfl⟩
  have hb0l : b0.length = 1 + (numB l.length).length := by rw [← hb0, List.length_append]; rfl
  repeat (first | refine then_nrm ?_ | refine aw_block ?_)
  refine aw_loop (G := Nat) (fun k => k ≤ l.length ∧ ∀ i, i < k → ∀ p, l[i]? = some p → okPart p = true) (fun k => [(4, .sl (Lid H.length 0) ((numB l.length).length + k) 0 (b0 ++ (l.take k).flatten).length (b0 ++ (l.take k).flatten).length), (19, .pl (l.map eB)), (20, .int .i64 (l.length : Int)), (21, .int .i64 (k : Int))]) (fun k => H ++ [⟨(numB l.length).length + k, 1, (b0 ++ (l.take k).flatten).map brow⟩]) (fun k => l.length - k) 0 ⟨Nat.zero_le _, fun i hi => absurd hi (Nat.not_lt_zero _)⟩ (by rw [show b0 ++ (l.take 0).flatten = [3] ++ numB l.length by rw [hb0]; simp]; simp only [List.length_append, List.length_cons, List.length_nil, Nat.zero_add, Nat.add_zero]; exact (by repeat (first | exact Sub.nil | refine Sub.cons (by first | rfl | (simp [get]; done)) ?_))) (.inl (by rw [show b0 ++ (l.take 0).flatten = [3] ++ numB l.length by rw [hb0]; simp]; (simp; done))) ?_
  rintro k ⟨hk, hall⟩
  have htl := okTake_len k hall
  generalize hbk : b0 ++ (l.take k).flatten = bk
  have hbkl : bk.length = b0.length + (l.take k).flatten.length := by rw [← hbk, List.length_append]
  repeat (refine aw_seq ?_)
  refine aw_region ?_
  refine ao1 (by decide) (o_lt rfl rfl) ?_
  refine ao_nil ?_
  repeat (first | refine then_nrm ?_ | refine aw_seq ?_)
  refine aw_cond rfl (fun hc => ?_) (fun hc => ?_)
  · have hlt : k < l.length := by simp at hc; omega
    obtain ⟨p, hp, _⟩ := get_in hlt
    have hr := map_get eB hp
    have hok : okPart p = (decide ((readSpec p).2 = 0) || decide ((readSet p).2 = 0)) := rfl
    repeat (first | refine then_nrm ?_ | refine aw_seq ?_ | refine aw_block ?_ | refine aw_skip ?_)
    refine aw_region ?_
    refine ao1 (by decide) (w_indexAddrpN rfl rfl hr rfl) ?_
    refine ao1 (by decide) (o_load1p (v := .pl _) rfl hr rfl) ?_
    refine ao1 (by decide) (o_assign (v := .pl _) rfl) ?_
    refine ao_nil ?_
    repeat (first | refine then_nrm ?_ | refine aw_seq ?_)
    refine aw_region ?_
    refine ao1 (by decide) (o_move (v := .pl _) rfl) ?_
    refine ao_ret (code_ReadSpec _ _) rfl (by decide) ?_
    refine ao1 (by decide) (o_move (v := .tup _) rfl) ?_
    refine ao1 (by decide) (o_extract (v := .agg _) rfl rfl) ?_
    refine ao1 (by decide) (o_extract (v := .int _ _) rfl rfl) ?_
    refine ao2 (by rintro _ ⟨⟩; decide) (o_allocL (sz := 7) rfl (by decide) rfl) ?_
    refine ao2 (by rintro _ ⟨⟩) (w_storeW (sz := 7) rfl rfl rfl rfl rfl rfl rfl rfl (Nat.le_of_ble_eq_true rfl)) ?_
    refine ao1 (by decide) (o_assign (v := .int _ _) rfl) ?_
    refine ao_nil ?_
    try dsimp only [List.length_cons, List.length_nil, Nat.reduceAdd, put, List.cons_append, List.nil_append, List.set_cons_zero, List.set_cons_succ]
    repeat (first | refine then_nrm ?_ | refine aw_seq ?_)
    refine aw_region ?_
    refine ao1 (by decide) (o_move (v := .pl _) rfl) ?_
    refine ao_ret (code_ReadSet _ _) rfl (by decide) ?_
    refine ao1 (by decide) (o_move (v := .tup _) rfl) ?_
    refine ao1 (by decide) (o_extract (v := .pl _) rfl rfl) ?_
    refine ao1 (by decide) (o_extract (v := .int _ _) rfl rfl) ?_
    refine ao1 (by decide) (o_assign (v := .pl _) rfl) ?_
    refine ao1 (by decide) (o_assign (v := .int _ _) rfl) ?_
    refine ao_nil ?_
    generalize (readSpec p).2 = e1 at hok
    generalize (readSet p).2 = e2 at hok
    repeat (first | refine then_nrm ?_ | refine aw_seq ?_)
    refine aw_out 40 (.bool (!okPart p)) ?_ ?_
    · refine ao1 (by decide) (o_move (v := .int _ _) rfl) ?_
      refine ao1 (by decide) (o_ne rfl rfl) ?_
      refine ao1 (by decide) (o_move (v := .bool _) rfl) ?_
      refine ao_split rfl rfl (fun hg2 => ?_) (fun hg2 => ?_)
      · refine ao_y1 rfl rfl (by decide) (o_move (v := .int _ _) rfl) ?_
        refine ao_y1 rfl rfl (by decide) (o_ne rfl rfl) ?_
        refine ao1 (by decide) (o_pick_t (v := .bool _) rfl rfl) ?_
        exact ao_nil (Out.mk (by (refine congrArg AV.bool ?_; (rw [hok]; clear hall htl hbk hB; grind))) (by repeat (first | exact SubX.refl _ _ | refine SubX.at ?_ | refine SubX.put rfl ?_)))
      · refine ao_nT rfl rfl (by decide) ?_
        refine ao_nT rfl rfl (by decide) ?_
        refine ao1 (by decide) (o_pick_f (v := .bool _) rfl rfl) ?_
        exact ao_nil (Out.mk (by (refine congrArg AV.bool ?_; (rw [hok]; clear hall htl hbk hB; (simp_all; done)))) (by repeat (first | exact SubX.refl _ _ | refine SubX.at ?_ | refine SubX.put rfl ?_)))
    cases hkp : okPart p with
    | false =>
      repeat (refine then_nrm ?_)
      refine aw_cond rfl (fun hc => ?_) (fun hc => ?_)
      · rw [show putList l = ([], 3) by rw [putList, if_neg h1, if_neg (by rw [ok_not hp hkp]; simp)]]
        repeat (refine aw_seq ?_)
        refine aw_region ?_
        refine ao1 (by decide) (o_assign (v := .nsl) rfl) ?_
        refine ao1 (by decide) (o_assign (v := .int _ _) rfl) ?_
        refine ao_nil ?_
        try dsimp only
        repeat (refine then_nrm ?_)
        refine aw_nslpl 2 rfl ?_
        refine aw_ret ?_
        exact e_done hB (r_tmp rfl (r_tmp rfl .nil)) rfl rfl
      · simp at hc
    | true =>
      repeat (refine then_nrm ?_)
      refine aw_cond rfl (fun hc => ?_) (fun hc => ?_)
      · simp at hc
      have hpl := okPart_len hkp
      repeat (first | refine then_nrm ?_ | refine aw_skip ?_)
      refine aw_region ?_
      refine ao1 (by decide) (o_move (v := .sl _ _ _ _ _) rfl) ?_
      refine ao1 (by decide) (o_move (v := .pl _) rfl) ?_
      refine ao2 (by rintro _ ⟨⟩; decide) (g_appB (bs := bk) (cs := p) (en := brow) rfl rfl rfl (Src.pl rfl (bytes_len1 _)) rfl (by omega) (by omega)) ?_
      refine ao1 (by decide) (o_assign (v := .sl _ _ _ _ _) rfl) ?_
      refine ao_nil ?_
      try dsimp only [put, List.set_cons_zero]
      repeat (first | refine then_nrm ?_ | refine blk_nrm ?_)
      refine aw_region ?_
      refine ao1 (by decide) (o_add (r := ((k + 1 : Nat) : Int)) rfl rfl (wrap64_ok (by omega) (by omega))) ?_
      refine ao1 (by decide) (o_move (v := .int _ _) rfl) ?_
      refine ao_nil ?_
      repeat (refine then_nrm ?_)
      have hstep : b0 ++ (l.take (k + 1)).flatten = bk ++ p := by rw [take_snoc_get hp, List.flatten_append, List.flatten_singleton, ← List.append_assoc, hbk]
      refine ⟨k + 1, by omega, ⟨by omega, fun i hi q hq => ?_⟩, by rw [hstep]; exact (by repeat (first | exact Sub.nil | refine Sub.cons (by rfl) ?_)), by rw [hstep]; exact Fit.loc hB rfl (by repeat (first | exact EBel.nil | refine EBel.cons (by first | rfl | (simp [AV.bel, AV.bels, Lid]; done)) ?_)) (one_bel _ _ _)⟩
      rcases Nat.lt_or_ge i k with h2 | h2
      · exact hall i h2 q hq
      · have : i = k := by omega
        subst this
        rw [hp] at hq; cases hq; exact hkp
  · have hke : k = l.length := by simp at hc; omega
    subst hke
    rw [List.take_length] at hbk
    have hspec : putList l = (bk, 0) := by rw [putList, if_neg h1, if_pos (ok_all hall), ← hbk, ← hb0]; rfl
    rw [hspec]
    repeat (first | refine then_nrm ?_ | refine then_brk ?_ | refine blk_hit ?_ | refine aw_seq ?_ | refine aw_exit ?_)
    refine aw_region ?_
    refine ao1 (by decide) (o_move (v := .sl _ _ _ _ _) rfl) ?_
    refine ao1 (by decide) (o_assign (v := .sl _ _ _ _ _) rfl) ?_
    refine ao1 (by decide) (o_assign (v := .int _ _) rfl) ?_
    refine ao_nil ?_
    try dsimp only
    repeat (refine then_nrm ?_)
    refine aw_freezeL (ys := bk.map brow) 2 rfl rfl rfl rfl (by rw [List.drop_zero, List.take_of_length_le (by simp)]) (by simp) (bytes_bel0 0 _) ?_
    refine aw_ret ?_
    exact e_done hB (r_tmp rfl (r_tmp rfl .nil)) rfl rfl
set_option maxHeartbeats 0 in
theorem ref08_List (l : List (List UInt8)) (hl : l.length ≤ 1000000) (H : Heap) : AC Try.prog 15 [.pl (l.map eB)] H (Ret (.tup [.pl ((putList l).1.map brow), .int .i64 (putList l).2]) H) := by
  refine AC.body (N := 54) [.tmp 2, .tmp 3] Try.func15 rfl rfl rfl (Nat.le_of_ble_eq_true rfl) fun B hB => ?_
  repeat (refine aw_seq ?_)
  refine aw_region ?_
  refine ao1 (by decide) (o_assign (v := .nsl) rfl) ?_
  refine ao1 (by decide) (o_assign (v := .int _ _) rfl) ?_
  refine ao_nil ?_
  repeat (first | refine then_nrm ?_ | refine aw_seq ?_)
  refine aw_region ?_
  refine ao1 (by decide) (o_move (v := .pl _) rfl) ?_
  refine ao1 (by decide) (o_lenp rfl) ?_
  refine ao1 (by decide) (o_gt rfl rfl) ?_
  refine ao_nil ?_
  repeat (refine then_nrm ?_)
  refine aw_cond rfl (fun hc => ?_) (fun hc => ?_)
  · have h1 : 1000 < l.length := by simp at hc; omega
    rw [show putList l = ([], 4) by rw [putList, if_pos h1]]
    repeat (refine aw_seq ?_)
    refine aw_region ?_
    refine ao1 (by decide) (o_assign (v := .nsl) rfl) ?_
    refine ao1 (by decide) (o_assign (v := .int _ _) rfl) ?_
    refine ao_nil ?_
    try dsimp only
    repeat (refine then_nrm ?_)
    refine aw_nslpl 2 rfl ?_
    refine aw_ret ?_
    exact e_done hB (r_tmp rfl (r_tmp rfl .nil)) rfl rfl
  have h1 : ¬ 1000 < l.length := by simp at hc; omega
  clear hc
  have hn10 := numB_10 (n := l.length) (by omega)
  repeat (first | refine then_nrm ?_ | refine aw_seq ?_ | refine aw_skip ?_)
  refine aw_region ?_
  refine ao2 (by rintro _ ⟨⟩; decide) (o_buildSlice1L (sz := 1) (v := .int _ _) rfl (by decide) (by decide) rfl rfl rfl rfl rfl) ?_
  refine ao1 (by decide) (o_move (v := .pl _) rfl) ?_
  refine ao1 (by decide) (o_lenp rfl) ?_
  refine ao1 (by decide) (o_conv_int (r := (l.length : Int)) rfl (by rw [List.length_map]; exact u64_wrap _ (by omega))) ?_
  refine ao_ret (ref08_num l.length (by omega) _) rfl (by decide) ?_
  refine ao2 (by rintro _ ⟨⟩; decide) (g_appB (bs := [3]) (cs := numB l.length) (en := brow) rfl rfl rfl (Src.pl rfl (bytes_len1 _)) rfl (by simp; omega) (by simp; omega)) ?_
  refine ao1 (by decide) (o_assign (v := .sl _ _ _ _ _) rfl) ?_
  refine ao_nil ?_
  try dsimp only [List.length_nil, Nat.reduceAdd, List.cons_append, List.nil_append, List.length_cons, put, AV.cells, List.set_cons_zero]
  repeat (first | refine then_nrm ?_ | refine aw_seq ?_)
  refine aw_region ?_
  refine ao1 (by decide) (o_assign (v := .int _ _) rfl) ?_
  refine ao_nil ?_
  obtain ⟨b0, hb0⟩ : ∃ b0 : List UInt8, [3] ++ numB l.length = b0 := ⟨_, rfl⟩
  have hb0l : b0.length = 1 + (numB l.length).length := by rw [← hb0, List.length_append]; rfl
  repeat (first | refine then_nrm ?_ | refine aw_block ?_)
  refine aw_loop (G := Nat) (fun k => k ≤ l.length ∧ ∀ i, i < k → ∀ p, l[i]? = some p → okPart p = true) (fun k => [(0, .pl (l.map eB)), (4, .sl (Lid H.length 0) (1 + k) 0 (b0 ++ (l.take k).flatten).length (b0 ++ (l.take k).flatten).length), (5, .int .i64 (k : Int))]) (fun k => H ++ [⟨1 + k, 1, (b0 ++ (l.take k).flatten).map brow⟩]) (fun k => l.length - k) 0 ⟨Nat.zero_le _, fun i hi => absurd hi (Nat.not_lt_zero _)⟩ (by rw [show b0 ++ (l.take 0).flatten = [3] ++ numB l.length by rw [hb0]; simp]; simp only [List.cons_append, List.nil_append, List.length_cons, Nat.add_zero]; exact (by repeat (first | exact Sub.nil | refine Sub.cons (by rfl) ?_))) (.inl (by rw [show b0 ++ (l.take 0).flatten = [3] ++ numB l.length by rw [hb0]; simp]; rfl)) ?_
  rintro k ⟨hk, hall⟩
  have htl := okTake_len k hall
  generalize hbk : b0 ++ (l.take k).flatten = bk
  have hbkl : bk.length = b0.length + (l.take k).flatten.length := by rw [← hbk, List.length_append]
  repeat (refine aw_seq ?_)
  refine aw_region ?_
  refine ao1 (by decide) (o_move (v := .int _ _) rfl) ?_
  refine ao1 (by decide) (o_move (v := .pl _) rfl) ?_
  refine ao1 (by decide) (o_lenp rfl) ?_
  refine ao1 (by decide) (o_lt rfl rfl) ?_
  refine ao_nil ?_
  repeat (refine then_nrm ?_)
  refine aw_cond rfl (fun hc => ?_) (fun hc => ?_)
  · have hlt : k < l.length := by simp at hc; omega
    obtain ⟨p, hp, _⟩ := get_in hlt
    have hr := map_get eB hp
    have hok : okPart p = (decide ((readSpec p).2 = 0) || decide ((readSet p).2 = 0)) := rfl
    repeat (first | refine then_nrm ?_ | refine aw_seq ?_ | refine aw_block ?_ | refine aw_skip ?_)
    refine aw_region ?_
    refine ao1 (by decide) (o_move (v := .pl _) rfl) ?_
    refine ao1 (by decide) (o_move (v := .int _ _) rfl) ?_
    refine ao1 (by decide) (w_indexAddrpN rfl rfl hr rfl) ?_
    refine ao1 (by decide) (o_load1p (v := .pl _) rfl hr rfl) ?_
    refine ao_ret (ref08_ReadSpec _ _) rfl (by decide) ?_
    refine ao1 (by decide) (o_move (v := .tup _) rfl) ?_
    refine ao1 (by decide) (o_extract (v := .agg _) rfl rfl) ?_
    refine ao1 (by decide) (o_extract (v := .int _ _) rfl rfl) ?_
    refine ao2 (by rintro _ ⟨⟩; decide) (o_allocL (sz := 7) rfl (by decide) rfl) ?_
    refine ao2 (by rintro _ ⟨⟩) (w_storeW (sz := 7) rfl rfl rfl rfl rfl rfl rfl rfl (Nat.le_of_ble_eq_true rfl)) ?_
    refine ao1 (by decide) (o_assign (v := .int _ _) rfl) ?_
    refine ao_nil ?_
    try dsimp only [List.length_cons, List.length_nil, Nat.reduceAdd, put, List.cons_append, List.nil_append, List.set_cons_zero, List.set_cons_succ]
    repeat (first | refine then_nrm ?_ | refine aw_seq ?_)
    refine aw_region ?_
    refine ao1 (by decide) (o_move (v := .pl _) rfl) ?_
    refine ao1 (by decide) (o_move (v := .int _ _) rfl) ?_
    refine ao1 (by decide) (w_indexAddrpN rfl rfl hr rfl) ?_
    refine ao1 (by decide) (o_load1p (v := .pl _) rfl hr rfl) ?_
    refine ao_ret (ref08_ReadSet _ _) rfl (by decide) ?_
    refine ao1 (by decide) (o_move (v := .tup _) rfl) ?_
    refine ao1 (by decide) (o_extract (v := .pl _) rfl rfl) ?_
    refine ao1 (by decide) (o_extract (v := .int _ _) rfl rfl) ?_
    refine ao1 (by decide) (o_assign (v := .pl _) rfl) ?_
    refine ao1 (by decide) (o_assign (v := .int _ _) rfl) ?_
    refine ao_nil ?_
    generalize (readSpec p).2 = e1 at hok
    generalize (readSet p).2 = e2 at hok
    repeat (first | refine then_nrm ?_ | refine aw_seq ?_)
    refine aw_out 46 (.bool (!okPart p)) ?_ ?_
    · refine ao1 (by decide) (o_move (v := .int _ _) rfl) ?_
      refine ao1 (by decide) (o_ne rfl rfl) ?_
      refine ao1 (by decide) (o_move (v := .bool _) rfl) ?_
      refine ao_split rfl rfl (fun hg2 => ?_) (fun hg2 => ?_)
      · refine ao_y1 rfl rfl (by decide) (o_move (v := .int _ _) rfl) ?_
        refine ao_y1 rfl rfl (by decide) (o_ne rfl rfl) ?_
        refine ao1 (by decide) (o_pick_t (v := .bool _) rfl rfl) ?_
        exact ao_nil (Out.mk (by (refine congrArg AV.bool ?_; (rw [hok]; clear hall htl hbk hB; grind))) (by repeat (first | exact SubX.refl _ _ | refine SubX.at ?_ | refine SubX.put rfl ?_)))
      · refine ao_nT rfl rfl (by decide) ?_
        refine ao_nT rfl rfl (by decide) ?_
        refine ao1 (by decide) (o_pick_f (v := .bool _) rfl rfl) ?_
        exact ao_nil (Out.mk (by (refine congrArg AV.bool ?_; (rw [hok]; clear hall htl hbk hB; (simp_all; done)))) (by repeat (first | exact SubX.refl _ _ | refine SubX.at ?_ | refine SubX.put rfl ?_)))
    cases hkp : okPart p with
    | false =>
      repeat (refine then_nrm ?_)
      refine aw_cond rfl (fun hc => ?_) (fun hc => ?_)
      · rw [show putList l = ([], 3) by rw [putList, if_neg h1, if_neg (by rw [ok_not hp hkp]; simp)]]
        repeat (refine aw_seq ?_)
        refine aw_region ?_
        refine ao1 (by decide) (o_assign (v := .nsl) rfl) ?_
        refine ao1 (by decide) (o_assign (v := .int _ _) rfl) ?_
        refine ao_nil ?_
        try dsimp only
        repeat (refine then_nrm ?_)
        refine aw_nslpl 2 rfl ?_
        refine aw_ret ?_
        exact e_done hB (r_tmp rfl (r_tmp rfl .nil)) rfl rfl
      · simp at hc
    | true =>
      repeat (refine then_nrm ?_)
      refine aw_cond rfl (fun hc => ?_) (fun hc => ?_)
      · simp at hc
      have hpl := okPart_len hkp
      repeat (first | refine then_nrm ?_ | refine aw_skip ?_)
      refine aw_region ?_
      refine ao1 (by decide) (o_move (v := .sl _ _ _ _ _) rfl) ?_
      refine ao1 (by decide) (o_move (v := .pl _) rfl) ?_
      refine ao1 (by decide) (o_move (v := .int _ _) rfl) ?_
      refine ao1 (by decide) (w_indexAddrpN rfl rfl hr rfl) ?_
      refine ao1 (by decide) (o_load1p (v := .pl _) rfl hr rfl) ?_
      refine ao2 (by rintro _ ⟨⟩; decide) (g_appB (bs := bk) (cs := p) (en := brow) rfl rfl rfl (Src.pl rfl (bytes_len1 _)) rfl (by omega) (by omega)) ?_
      refine ao1 (by decide) (o_assign (v := .sl _ _ _ _ _) rfl) ?_
      refine ao_nil ?_
      try dsimp only [put, List.set_cons_zero]
      repeat (first | refine then_nrm ?_ | refine blk_nrm ?_)
      refine aw_region ?_
      refine ao1 (by decide) (o_move (v := .int _ _) rfl) ?_
      refine ao1 (by decide) (o_add (r := ((k + 1 : Nat) : Int)) rfl rfl (wrap64_ok (by omega) (by omega))) ?_
      refine ao1 (by decide) (o_assign (v := .int _ _) rfl) ?_
      refine ao_nil ?_
      repeat (refine then_nrm ?_)
      have hstep : b0 ++ (l.take (k + 1)).flatten = bk ++ p := by rw [take_snoc_get hp, List.flatten_append, List.flatten_singleton, ← List.append_assoc, hbk]
      refine ⟨k + 1, by omega, ⟨by omega, fun i hi q hq => ?_⟩, by rw [hstep]; exact (by repeat (first | exact Sub.nil | refine Sub.cons (by rfl) ?_)), by rw [hstep]; exact Fit.loc hB rfl (by repeat (first | exact EBel.nil | refine EBel.cons (by first | rfl | (simp [AV.bel, AV.bels, Lid]; done)) ?_)) (one_bel _ _ _)⟩
      rcases Nat.lt_or_ge i k with h2 | h2
      · exact hall i h2 q hq
      · have : i = k := by omega
        subst this
        rw [hp] at hq; cases hq; exact hkp
  · have hke : k = l.length := by simp at hc; omega
    subst hke
    rw [List.take_length] at hbk
    have hspec : putList l = (bk, 0) := by rw [putList, if_neg h1, if_pos (ok_all hall), ← hbk, ← hb0]; rfl
    rw [hspec]
    repeat (first | refine then_nrm ?_ | refine then_brk ?_ | refine blk_hit ?_ | refine aw_seq ?_ | refine aw_exit ?_)
    refine aw_region ?_
    refine ao1 (by decide) (o_move (v := .sl _ _ _ _ _) rfl) ?_
    refine ao1 (by decide) (o_assign (v := .sl _ _ _ _ _) rfl) ?_
    refine ao1 (by decide) (o_assign (v := .int _ _) rfl) ?_
    refine ao_nil ?_
    try dsimp only
    repeat (refine then_nrm ?_)
    refine aw_freezeL (ys := bk.map brow) 2 rfl rfl rfl rfl (by rw [List.drop_zero, List.take_of_length_le (by simp)]) (by simp) (bytes_bel0 0 _) ?_
    refine aw_ret ?_
    exact e_done hB (r_tmp rfl (r_tmp rfl .nil)) rfl rfl
end Go.Av

/-
  REGIONS THAT DRAW THEIR ORDER, WHERE AN OPERATION MAY PANIC: every order is gone through.
-/
namespace Go.Av
section
variable (P : Program) (N : Nat) (B : Base) (ops : Array Oper)
def AAtP (i : Nat) (env : Env) (H : Heap) (K : Env → Heap → Prop) (Q : Post) : Prop :=
  ∃ o, ops[i]? = some o ∧ (∀ t, o.dst = some t → DN t N) ∧ o.guard = none ∧ ∃ V X : AV → Heap → Prop, AOp P N o (renv o env) H V X ∧ (∀ v H', V v H' → K (put env o.dst v) H') ∧ ∀ v H', X v H' → Q (.pan v) env H'
def AAnyP (Q : Post) : Nat → Array Bool → Env → Heap → Prop
  | 0, listed, env, H => Region.ready .any ops listed = [] ∧ AFin B (Q .nrm) env H
  | n + 1, listed, env, H => (Region.ready .any ops listed = [] → AFin B (Q .nrm) env H) ∧
    ∀ i ∈ Region.ready .any ops listed, AAtP P N ops i env H (AAnyP Q n (listed.setIfInBounds i true)) Q
end
section
variable {P : Program} {N : Nat} {B : Base} {ops : Array Oper} {Q : Post}
theorem AAnyP.sound : ∀ (fuel : Nat) (listed : Array Bool) (env : Env) (H : Heap), AAnyP P N B ops Q fuel listed env H → ∀ S act w, CR N env H S act w → Ext B.S B.w S w → wpAny P .any ops (Lift N Q B) fuel listed act w := by
  have fin : ∀ env H, AFin B (Q .nrm) env H → ∀ S act w, CR N env H S act w → Ext B.S B.w S w → Lift N Q B .normal act w := by
    rintro env H ⟨E, M, hQ, hs, hf⟩ S act w hc hb
    obtain ⟨S', c', k'⟩ := (hc.sub hs).fit hb hf
    exact ⟨.nrm, E, M, S', hQ, .nrm, c', k'⟩
  intro fuel
  induction fuel with
  | zero => intro listed env H h S act w hc hb; exact ⟨h.1, fin env H h.2 S act w hc hb⟩
  | succ fuel ih =>
    intro listed env H h S act w hc hb
    refine ⟨fun h0 => fin env H (h.1 h0) S act w hc hb, fun i hi => ?_⟩
    obtain ⟨o, ho, hd, hg, V, X, k2, k3, k4⟩ := h.2 i hi
    unfold wpOp
    rw [ho]
    simp only
    rw [if_pos (by unfold Region.wanted; rw [hg])]
    left
    refine k2 S act w (hc.sub (renv_sub o env)) _ _ ?_ ?_
    · intro v u H' S' w' hv hh hx hvr
      exact ih _ _ _ (k3 v H' hv) S' _ w' (hc.put hx hh (fun t ht => (hd t ht).1) hvr) (hb.trans hx)
    · intro v u H' S' w' hk hh hx hv
      exact ⟨.pan v, env, H', S', k4 v H' hk, .pan hv, hc.step hx hh, hb.trans hx⟩
theorem aw_drawX {id : Nat} {l : List Oper} {env : Env} {H : Heap} (hm : P.follows .mixedOrders = true)
    (h : AAnyP P N B l.toArray Q l.length (Array.replicate l.length false) env H) : AWp P N B (.region id l.toArray true) Q env H := fun S act w hc hb =>
  wp_region_any hm (by
    have hx : Ext S w S { w with drawn := w.drawn + 1 } := ⟨rfl, rfl, rfl, ⟨Nat.le_refl _, fun b _ h => ⟨h, rfl⟩, fun _ arr _ h => ⟨arr, h, rfl⟩⟩, SExt.refl S⟩
    have hh : HRel H S { w with drawn := w.drawn + 1 } := same_heap hc.heap hx (fun _ _ => rfl)
    have := AAnyP.sound l.length _ env H h S act { w with drawn := w.drawn + 1 } (hc.step hx hh) (hb.trans hx)
    simpa using this)
variable {fuel : Nat} {listed : Array Bool} {env : Env} {H : Heap} {op : Op} {ty : TypeId} {pos : String} {after : Array Edge} {v : AV}
theorem ax_all (l : List Nat) (hr : (Region.ready .any ops listed == l) = true) (hne : l ≠ [])
    (h : ∀ i ∈ l, AAtP P N ops i env H (AAnyP P N B ops Q fuel (listed.setIfInBounds i true)) Q) : AAnyP P N B ops Q (fuel + 1) listed env H := by
  have hr' : Region.ready .any ops listed = l := by simpa using hr
  refine ⟨fun h0 => absurd (hr'.symm.trans h0) hne, fun j hj => ?_⟩
  rw [hr'] at hj
  exact h j hj
theorem ax_done (hr : (Region.ready .any ops listed == []) = true) (h : Q .nrm env H) : AAnyP P N B ops Q fuel listed env H := by
  have hr' : Region.ready .any ops listed = [] := by simpa using hr
  have hf : AFin B (Q .nrm) env H := ⟨env, H, h, Sub.refl env, Fit.refl _ _⟩
  cases fuel with
  | zero => exact ⟨hr', hf⟩
  | succ n => exact ⟨fun _ => hf, fun j hj => by rw [hr'] at hj; cases hj⟩
theorem axt {dst : Option Nat} {H' : Heap} {i : Nat} {K : Env → Heap → Prop} (hi : ops[i]? = some ⟨dst, op, ty, pos, after, none⟩) (hd : ∀ t, dst = some t → DN t N)
    (h1 : V2 P N op ty (renv ⟨dst, op, ty, pos, after, none⟩ env) H v H') (h : K (Av.put env dst v) H') : AAtP P N ops i env H K Q :=
  ⟨_, hi, hd, rfl, _, _, h1 _ _ _ _, by rintro _ _ ⟨rfl, rfl⟩; exact h, fun _ _ hf => hf.elim⟩
theorem axc {dst : Option Nat} {i f : Nat} {xs : Array Operand} {ts : Array TypeId} {vs : List AV} {R : AOut → Heap → Prop} {K : Env → Heap → Prop} [FnI P f] (hi : ops[i]? = some ⟨dst, .call { callee := .value (.func f), args := xs, argTypes := ts }, ty, pos, after, none⟩) (hd : ∀ t, dst = some t → DN t N)
    (hvs : xs.toList.map (aev (renv ⟨dst, .call { callee := .value (.func f), args := xs, argTypes := ts }, ty, pos, after, none⟩ env)) = vs) (hac : AC P f vs H R) (hK : ∀ v H', R (.ret v) H' → K (Av.put env dst v) H') (hX : ∀ v H', R (.pan v) H' → Q (.pan v) env H') : AAtP P N ops i env H K Q := by
  subst hvs
  refine ⟨_, hi, hd, rfl, _, _, AOp.call (P := P) (N := N) (f := f) (fun S a w hc => ⟨xs.map a.eval, ?_, evs_ok hc xs⟩) hac, hK, hX⟩
  simp [execOp, resolve, Act.eval, Deferred.ofValue, invoke, run_callFunc (P := P) (f := f)]
end
end Go.Av

namespace Go.Av
open Go.Proofs
set_option maxRecDepth 10000
set_option linter.unusedSimpArgs false
set_option linter.unusedVariables false

theorem bytes_Clone (b : List UInt8) (H : Heap) (hn : b.length ≤ 140737488355328) : AC Try.prog 58 [.pl (b.map brow)] H (Ret (.pl (b.map brow)) H) := by
  refine AC.body (N := 8) [.tmp 2] Try.func58 rfl rfl rfl (Nat.le_of_ble_eq_true rfl) fun B hB => ?_
  repeat (refine aw_seq ?_)
  refine aw_region ?_
  refine ao1 (by decide) (o_assign (v := .nsl) rfl) ?_
  refine ao_nil ?_
  repeat (first | refine then_nrm ?_ | refine aw_seq ?_)
  refine aw_region ?_
  refine ao1 (by decide) (o_move (v := .pl _) rfl) ?_
  refine ao_cons rfl (by rintro _ ⟨⟩; decide) (o_eqNil rfl rfl _ _ _ _) ?_ (fun _ _ h => h.elim)
  rintro _ _ ⟨nb, rfl, hnb, rfl⟩
  refine ao_nil ?_
  try dsimp only [put]
  repeat (refine then_nrm ?_)
  refine aw_cond rfl (fun hc => ?_) (fun hc => ?_)
  · subst hc
    have hb : b = [] := by
      cases b with
      | nil => rfl
      | cons x b => simp at hnb
    subst hb
    repeat (refine aw_seq ?_)
    refine aw_region ?_
    refine ao1 (by decide) (o_assign (v := .nsl) rfl) ?_
    refine ao_nil ?_
    repeat (refine then_nrm ?_)
    refine aw_nslpl 2 rfl ?_
    exact aw_ret (e_done hB (r_tmp rfl .nil) rfl rfl)
  · repeat (first | refine then_nrm ?_ | refine aw_seq ?_ | refine aw_skip ?_)
    refine aw_region ?_
    refine ao2 (by rintro _ ⟨⟩; decide) (o_buildSlice0) ?_
    refine ao1 (by decide) (o_move (v := .pl _) rfl) ?_
    refine ao2 (by rintro _ ⟨⟩; decide) (g_append_new (sz := 1) (bytes := 1) rfl (Src.pl rfl (bytes_len1 b)) rfl (by decide) (by simp; omega) (by simp; omega) (bytes_bel0 0 b)) ?_
    refine ao1 (by decide) (o_assign (v := .pl _) rfl) ?_
    refine ao_nil ?_
    try dsimp only [put]
    repeat (first | refine then_nrm ?_ | refine aw_ret ?_)
    exact e_done hB (r_tmp rfl .nil) rfl rfl
theorem o_slicep3F {P : Program} {N : Nat} {env : Env} {H : Heap} {ty t e : TypeId} {x hi mx : Operand} {lo : Option Operand} {k k' : IntKind} {xs : List (List AV)} {sz : Nat} {agg : Bool} [hu : SlI P t e] [TyI P e agg sz] (hx : aev env x = .pl xs) (hl : Bd env lo 0 0) (hh : aev env hi = .int k (xs.length : Int)) (hm : aev env mx = .int k' (xs.length : Int)) (hsz : ∀ r ∈ xs, r.length = sz) :
    V1 P N (.slice t x lo (Option.some hi) (Option.some mx)) ty env H (.pl xs) := by
  have := o_slicep3 (P := P) (N := N) (env := env) (H := H) (ty := ty) (t := t) (e := e) (agg := agg) (l := 0) hx hl hh hm (Nat.zero_le _) (Nat.le_refl _) (Nat.le_refl _) hsz
  rw [List.drop_zero, Nat.sub_zero, List.take_length] at this
  exact this
theorem slices_ClipB (l : List (List UInt8)) (H : Heap) : AC Try.prog 46 [.pl (l.map eB)] H (Ret (.pl (l.map eB)) H) := by
  refine AC.body (N := 9) [.tmp 2] Try.func46 rfl rfl rfl (Nat.le_of_ble_eq_true rfl) fun B hB => ?_
  repeat (refine aw_seq ?_)
  refine aw_region ?_
  refine ao1 (by decide) (o_assign (v := .nsl) rfl) ?_
  refine ao_nil ?_
  repeat (first | refine then_nrm ?_ | refine aw_seq ?_)
  refine aw_region ?_
  refine ao1 (by decide) (o_move (v := .pl _) rfl) ?_
  refine ao1 (by decide) (o_move (v := .pl _) rfl) ?_
  refine ao1 (by decide) (o_lenp rfl) ?_
  refine ao1 (by decide) (o_move (v := .pl _) rfl) ?_
  refine ao1 (by decide) (o_lenp rfl) ?_
  refine ao1 (by decide) (o_slicep3F (sz := 1) rfl .none rfl rfl (eB_len l)) ?_
  refine ao1 (by decide) (o_assign (v := .pl _) rfl) ?_
  refine ao_nil ?_
  repeat (first | refine then_nrm ?_ | refine aw_ret ?_)
  exact e_done hB (r_tmp rfl .nil) rfl rfl
def partV (p : List UInt8) : AV := .pl (p.map brow)
set_option maxHeartbeats 0 in
theorem code_part (b : List UInt8) (hb : b.length ≤ 65536) (id g : Nat) (H : Heap) (h : id < H.length) : AC Try.prog 45 [.pt id g 0 0] (Hs H id g b) (rdS H id g (rdV partV (rpart b))) := by
  have hF : (Hs H id g b)[id]? = some ⟨g, 1, [[.pl (b.map brow)]]⟩ := hs_get h
  refine AC.body (N := 31) [.tmp 2] Try.func45 rfl rfl rfl (Nat.le_of_ble_eq_true rfl) fun B hB => ?_
  repeat (refine aw_seq ?_)
  refine aw_region ?_
  refine ao1 (by decide) (o_assign (v := .nsl) rfl) ?_
  refine ao_nil ?_
  repeat (first | refine then_nrm ?_ | refine aw_seq ?_)
  refine aw_region ?_
  refine ao1 (by decide) (o_move (v := .pt _ _ _ _) rfl) ?_
  refine ao1 (by decide) (w_nilCheck rfl (lkF hF) rfl) ?_
  refine ao1 (by decide) (w_fieldAddr rfl (lkF hF) rfl (by decide)) ?_
  refine ao1 (by decide) (w_load1 (v := .pl _) rfl (lkF hF) rfl rfl rfl) ?_
  refine ao1 (by decide) (o_assign (v := .pl _) rfl) ?_
  refine ao_nil ?_
  try dsimp only [Nat.reduceAdd]
  cases b with
  | nil =>
    repeat (first | refine then_nrm ?_ | refine aw_seq ?_)
    refine aw_region ?_
    refine ao1 (by decide) (o_move (v := .pl _) rfl) ?_
    refine ao1 (by decide) (o_lenp rfl) ?_
    refine ao1 (by decide) (o_gt rfl rfl) ?_
    refine ao_need (b := false) rfl (by decide) code_need (fun hb => (by cases hb)) (fun _ => (by (repeat (refine then_pan ?_)); exact e_rdX hB rfl))
  | cons c b0 =>
  repeat (first | refine then_nrm ?_ | refine aw_seq ?_)
  refine aw_region ?_
  refine ao1 (by decide) (o_move (v := .pl _) rfl) ?_
  refine ao1 (by decide) (o_lenp rfl) ?_
  refine ao1 (by decide) (o_gt rfl rfl) ?_
  refine ao_need (b := true) (by refine congrArg (fun x => [AV.bool x, AV.int .i64 2]) ?_; (simp; done)) (by decide) code_need (fun _ => ?_) (fun hb => (by cases hb))
  refine ao_nil ?_
  have hr : ((c :: b0).map brow)[(0 : Int).toNat]? = some (brow c) := rfl
  repeat (first | refine then_nrm ?_ | refine aw_seq ?_)
  refine aw_region ?_
  refine ao1 (by decide) (o_move (v := .pl _) rfl) ?_
  refine ao1 (by decide) (w_indexAddrpN rfl rfl hr rfl) ?_
  refine ao1 (by decide) (o_load1p (v := .int _ _) rfl hr rfl) ?_
  refine ao1 (by decide) (o_eq rfl rfl) ?_
  refine ao_nil ?_
  try dsimp only
  clear hr
  by_cases hk : c = 1
  · subst hk
    have cs := code_rspec (1 :: b0) id g
    cases hs : rspec (1 :: b0) with
    | error e =>
      rw [hs] at cs
      have hres : rdV partV (rpart (1 :: b0)) = .error e := by rw [rpart, if_pos rfl, hs]; rfl
      repeat (refine then_nrm ?_)
      refine aw_cond rfl (fun hc => ?_) (fun hc => ?_)
      · repeat (fail)
        refine aw_region ?_
        refine ao1 (by decide) (o_move (v := .pt _ _ _ _) rfl) ?_
        refine ao_rd rfl (by decide) h cs (by rintro v r e; cases e) (by rintro e r e1; cases e1; (repeat (refine then_pan ?_)); exact e_rdX hB hres)
      · simp at hc
    | ok y =>
      obtain ⟨s, r⟩ := y
      rw [hs] at cs
      have hres : rdV partV (rpart (1 :: b0)) = .ok (partV ((1 :: b0).take ((1 :: b0).length - r.length)), r) := by rw [rpart, if_pos rfl, hs]; rfl
      obtain ⟨x, hx, _, _⟩ := rspec_pfx _ _ _ hs
      have hrl : r.length ≤ (1 :: b0).length := by rw [hx, List.length_append]; omega
      have hF : (Hs H id g r)[id]? = some ⟨g, 1, [[.pl (r.map brow)]]⟩ := hs_get h
      generalize 1 :: b0 = b at hb hB cs hs hres hrl
      have htl : (b.take (b.length - r.length)).length ≤ 140737488355328 := by rw [List.length_take]; omega
      repeat (refine then_nrm ?_)
      refine aw_cond rfl (fun hc => ?_) (fun hc => ?_)
      · repeat (fail)
        refine aw_region ?_
        refine ao1 (by decide) (o_move (v := .pt _ _ _ _) rfl) ?_
        refine ao_rd rfl (by decide) h cs (fun v r' e => ?_) (by rintro e r e1; cases e1); cases e
        refine ao_nil ?_
        repeat (first | refine then_nrm ?_ | refine aw_seq ?_)
        refine aw_region ?_
        refine ao1 (by decide) (o_move (v := .pl _) rfl) ?_
        refine ao1 (by decide) (o_move (v := .pl _) rfl) ?_
        refine ao1 (by decide) (o_lenp rfl) ?_
        refine ao1 (by decide) (o_move (v := .pt _ _ _ _) rfl) ?_
        refine ao1 (by decide) (w_nilCheck rfl (lkF hF) rfl) ?_
        refine ao1 (by decide) (w_fieldAddr rfl (lkF hF) rfl (by decide)) ?_
        refine ao1 (by decide) (w_load1 (v := .pl _) rfl (lkF hF) rfl rfl rfl) ?_
        refine ao1 (by decide) (o_lenp rfl) ?_
        refine ao1 (by decide) (o_sub (r := ((b.length - r.length : Nat) : Int)) rfl rfl (by rw [List.length_map, List.length_map, show (b.length : Int) - (r.length : Int) = ((b.length - r.length : Nat) : Int) by omega]; exact wrap64_ok (by omega) (by omega))) ?_
        refine ao1 (by decide) (o_slicepT (sz := 1) (h := b.length - r.length) (ys := (b.take (b.length - r.length)).map brow) rfl (.some rfl rfl) (by simp) (bytes_len1 _) (List.map_take).symm) ?_
        refine ao_ret (bytes_Clone _ _ (by assumption)) rfl (by decide) ?_
        refine ao1 (by decide) (o_assign (v := .pl _) rfl) ?_
        refine ao_nil ?_
        try dsimp only [Nat.reduceAdd]
        repeat (first | refine then_nrm ?_ | refine aw_ret ?_)
        exact e_rd hB (r_tmp rfl .nil) rfl hres rfl
      · simp at hc
  · have hk' : ¬ (c.toNat : Int) = 1 := fun e => hk (UInt8.toNat_inj.1 (by show c.toNat = 1; omega))
    have cs := code_rset (c :: b0) id g
    cases hs : rset (c :: b0) with
    | error e =>
      rw [hs] at cs
      have hres : rdV partV (rpart (c :: b0)) = .error e := by rw [rpart, if_neg hk, hs]; rfl
      repeat (refine then_nrm ?_)
      refine aw_cond rfl (fun hc => ?_) (fun hc => ?_)
      · exact absurd (by simpa using hc) hk'
      · repeat (fail)
        refine aw_region ?_
        refine ao1 (by decide) (o_move (v := .pt _ _ _ _) rfl) ?_
        refine ao_rd rfl (by decide) h cs (by rintro v r e; cases e) (by rintro e r e1; cases e1; (repeat (refine then_pan ?_)); exact e_rdX hB hres)
    | ok y =>
      obtain ⟨s, r⟩ := y
      rw [hs] at cs
      have hres : rdV partV (rpart (c :: b0)) = .ok (partV ((c :: b0).take ((c :: b0).length - r.length)), r) := by rw [rpart, if_neg hk, hs]; rfl
      obtain ⟨x, hx, _, _⟩ := rset_pfx _ _ _ hs
      have hrl : r.length ≤ (c :: b0).length := by rw [hx, List.length_append]; omega
      have hF : (Hs H id g r)[id]? = some ⟨g, 1, [[.pl (r.map brow)]]⟩ := hs_get h
      generalize c :: b0 = b at hb hB cs hs hres hrl
      have htl : (b.take (b.length - r.length)).length ≤ 140737488355328 := by rw [List.length_take]; omega
      repeat (refine then_nrm ?_)
      refine aw_cond rfl (fun hc => ?_) (fun hc => ?_)
      · exact absurd (by simpa using hc) hk'
      · repeat (fail)
        refine aw_region ?_
        refine ao1 (by decide) (o_move (v := .pt _ _ _ _) rfl) ?_
        refine ao_rd rfl (by decide) h cs (fun v r' e => ?_) (by rintro e r e1; cases e1); cases e
        refine ao_nil ?_
        repeat (first | refine then_nrm ?_ | refine aw_seq ?_)
        refine aw_region ?_
        refine ao1 (by decide) (o_move (v := .pl _) rfl) ?_
        refine ao1 (by decide) (o_move (v := .pl _) rfl) ?_
        refine ao1 (by decide) (o_lenp rfl) ?_
        refine ao1 (by decide) (o_move (v := .pt _ _ _ _) rfl) ?_
        refine ao1 (by decide) (w_nilCheck rfl (lkF hF) rfl) ?_
        refine ao1 (by decide) (w_fieldAddr rfl (lkF hF) rfl (by decide)) ?_
        refine ao1 (by decide) (w_load1 (v := .pl _) rfl (lkF hF) rfl rfl rfl) ?_
        refine ao1 (by decide) (o_lenp rfl) ?_
        refine ao1 (by decide) (o_sub (r := ((b.length - r.length : Nat) : Int)) rfl rfl (by rw [List.length_map, List.length_map, show (b.length : Int) - (r.length : Int) = ((b.length - r.length : Nat) : Int) by omega]; exact wrap64_ok (by omega) (by omega))) ?_
        refine ao1 (by decide) (o_slicepT (sz := 1) (h := b.length - r.length) (ys := (b.take (b.length - r.length)).map brow) rfl (.some rfl rfl) (by simp) (bytes_len1 _) (List.map_take).symm) ?_
        refine ao_ret (bytes_Clone _ _ (by assumption)) rfl (by decide) ?_
        refine ao1 (by decide) (o_assign (v := .pl _) rfl) ?_
        refine ao_nil ?_
        try dsimp only [Nat.reduceAdd]
        repeat (first | refine then_nrm ?_ | refine aw_ret ?_)
        exact e_rd hB (r_tmp rfl .nil) rfl hres rfl
end Go.Av

namespace Go.Av
open Go.Proofs
set_option maxRecDepth 10000
set_option linter.unusedSimpArgs false
set_option linter.unusedVariables false

/-- The list that is read, and where it lies. -/
def LH (W : Heap) (lid gid : Nat) (ps : List (List UInt8)) : Heap := (W.set gid ⟨ps.length + 1, 1, ps.map eB⟩).set lid ⟨0, 1, [[.sl gid (ps.length + 1) 0 ps.length ps.length]]⟩
theorem lh_len (W : Heap) (lid gid : Nat) (ps : List (List UInt8)) : (LH W lid gid ps).length = W.length := by unfold LH; rw [List.length_set, List.length_set]
section
variable {W : Heap} {lid gid R : Nat} {ps : List (List UInt8)} {qs : List (List UInt8)} {bs cs : List UInt8} {p : List UInt8}
theorem lh_lid (h : lid < W.length) (hr : R ≠ lid) : (Hs (LH W lid gid ps) R 0 bs)[lid]? = some ⟨0, 1, [[.sl gid (ps.length + 1) 0 ps.length ps.length]]⟩ := by
  unfold Hs LH
  rw [List.getElem?_set_ne hr, List.getElem?_set_self (by rw [List.length_set]; exact h)]
theorem lh_gid (h : gid < W.length) (hr : R ≠ gid) (hn : lid ≠ gid) : (Hs (LH W lid gid ps) R 0 bs)[gid]? = some ⟨ps.length + 1, 1, ps.map eB⟩ := by
  unfold Hs LH
  rw [List.getElem?_set_ne hr, List.getElem?_set_ne hn, List.getElem?_set_self h]
theorem lh_step (hr : R ≠ gid) (hr2 : R ≠ lid) (hn : lid ≠ gid) : ((Hs (LH W lid gid ps) R 0 bs).set gid ⟨ps.length + 1 + 1, 1, (ps ++ [p]).map eB⟩).set lid ⟨0, 1, [[.sl gid (ps.length + 1 + 1) 0 (ps.length + 1) (ps.length + 1)]]⟩ = Hs (LH W lid gid (ps ++ [p])) R 0 bs := by
  unfold Hs LH
  have e : (ps ++ [p]).length = ps.length + 1 := by simp
  rw [e]
  refine List.ext_getElem? fun i => ?_
  simp only [List.getElem?_set, List.length_set]
  by_cases h1 : lid = i
  · subst h1; simp [hr2, hr2.symm]
  by_cases h2 : gid = i
  · subst h2; simp [h1, hr, hr.symm]
  by_cases h3 : R = i
  · subst h3; simp [h1, h2]
  · simp [h1, h2, h3]
theorem lh_over : Hs (LH (Hs (LH W lid gid ps) R 0 bs) lid gid qs) R 0 cs = Hs (LH W lid gid qs) R 0 cs := by
  unfold Hs LH
  refine List.ext_getElem? fun i => ?_
  simp only [List.getElem?_set, List.length_set]
  by_cases h3 : R = i
  · subst h3; simp
  by_cases h1 : lid = i
  · subst h1; simp [h3]
  by_cases h2 : gid = i
  · subst h2; simp [h1, h3]
  · simp [h1, h2, h3]
theorem lh_bel {n : Nat} (h : HBel n W) (hg : gid < n) : HBel n (LH W lid gid ps) := by
  unfold LH
  refine HBel.set (HBel.set h _ _ (eB_bel n ps)) _ _ (by simp [AV.bels, AV.bel, hg])
theorem lh_bel2 {n : Nat} (h : HBel n (Hs (LH W lid gid ps) R 0 bs)) (hg : gid < n) {cs : List UInt8} : HBel n (Hs (LH W lid gid qs) R 0 cs) := by
  rw [← lh_over (ps := ps) (bs := bs)]
  exact hs_bel (lh_bel h hg) _ _ _
end
def rlR (W : Heap) (lid gid R : Nat) (x : List (List UInt8) × Except Int (List UInt8)) : AOut → Heap → Prop := fun o H' => match x.2 with
  | .ok r => o = .ret (.tup []) ∧ H' = Hs (LH W lid gid x.1) R 0 r
  | .error e => o = .pan (.ifc TE (.int .i64 e)) ∧ ∃ r, H' = Hs (LH W lid gid x.1) R 0 r
section
variable {P : Program} {B : Base} {rs : List ResultVar} {env : Env} {W : Heap} {lid gid R : Nat} {b : List UInt8} {args : List AV} {x : List (List UInt8) × Except Int (List UInt8)}
theorem e_rl {ps : List (List UInt8)} {r : List UInt8} (hB : Begun B (Hs (LH W lid gid []) R 0 b) args) (hg : gid < W.length) (hx : x = (ps, .ok r)) : Ends P B [] (rlR W lid gid R x) .ret env (Hs (LH W lid gid ps) R 0 r ++ []) := by
  subst hx
  refine e_ret (vs := []) hB .nil rfl ⟨rfl, rfl⟩ rfl (by rw [hs_len, hs_len, lh_len, lh_len]) ?_
  exact lh_bel2 hB.heap (by rw [hs_len, lh_len]; exact hg)
theorem e_rlX {ps : List (List UInt8)} {r : List UInt8} {e : Int} (hB : Begun B (Hs (LH W lid gid []) R 0 b) args) (hg : gid < W.length) (hx : x = (ps, .error e)) : Ends P B rs (rlR W lid gid R x) (.pan (.ifc TE (.int .i64 e))) env (Hs (LH W lid gid ps) R 0 r ++ []) := by
  subst hx
  refine e_pan hB ⟨rfl, r, rfl⟩ rfl (by rw [hs_len, hs_len, lh_len, lh_len]) ?_
  exact lh_bel2 hB.heap (by rw [hs_len, lh_len]; exact hg)
end
set_option maxHeartbeats 0 in
theorem readList_w (b : List UInt8) (hb : b.length ≤ 65536) (W : Heap) (lid gid R : Nat) (hl : lid < W.length) (hg : gid < W.length) (hR : R < W.length) (hne : lid ≠ gid) (h1 : R ≠ lid) (h2 : R ≠ gid) :
    AC Try.prog 41 [.pt R 0 0 0, .pt lid 0 0 0] (Hs (LH W lid gid []) R 0 b) (rlR W lid gid R (rlist b)) := by
  have hRL : ∀ ps, R < (LH W lid gid ps).length := fun ps => by rw [lh_len]; exact hR
  refine AC.body (N := 20) [] Try.func41 rfl rfl rfl (Nat.le_of_ble_eq_true rfl) fun B hB => ?_
  cases b with
  | nil =>
    repeat (refine aw_seq ?_)
    refine aw_region ?_
    refine ao1 (by decide) (o_move (v := .pt _ _ _ _) rfl) ?_
    refine ao_rd rfl (by decide) (hRL []) (code_kind [] 3 R 0) (by rintro v r e; cases e) (by rintro e r e1; cases e1; (repeat (refine then_pan ?_)); exact e_rlX hB hg rfl)
  | cons c b0 =>
  by_cases hk : c ≠ 3
  · have hk' : ¬ (c.toNat : Int) = 3 := fun e => hk (UInt8.toNat_inj.1 (by show c.toNat = 3; omega))
    have ck := code_kind (c :: b0) 3 R 0
    rw [kindS, if_neg hk'] at ck
    have hres : rlist (c :: b0) = ([], .error 3) := by rw [rlist, if_pos hk]
    repeat (refine aw_seq ?_)
    refine aw_region ?_
    refine ao1 (by decide) (o_move (v := .pt _ _ _ _) rfl) ?_
    refine ao_rd rfl (by decide) (hRL []) ck (by rintro v r e; cases e) (by rintro e r e1; cases e1; (repeat (refine then_pan ?_)); exact e_rlX hB hg hres)
  have hk' : (c.toNat : Int) = 3 := by have : c = 3 := by simpa using hk
                                       subst this; rfl
  have ck := code_kind (c :: b0) 3 R 0
  rw [kindS, if_pos hk'] at ck
  repeat (refine aw_seq ?_)
  refine aw_region ?_
  refine ao1 (by decide) (o_move (v := .pt _ _ _ _) rfl) ?_
  refine ao_rd rfl (by decide) (hRL []) ck (fun v r' e => ?_) (by rintro e r e1; cases e1); cases e
  refine ao_nil ?_
  have cn := code_num b0 R 0
  cases hgo : gotf b0 with
  | error e0 =>
    rw [show got 0 0 b0 = .error e0 from hgo] at cn
    have hres : rlist (c :: b0) = ([], .error e0) := by rw [rlist, if_neg hk, hgo]
    repeat (first | refine then_nrm ?_ | refine aw_seq ?_)
    refine aw_region ?_
    refine ao1 (by decide) (o_move (v := .pt _ _ _ _) rfl) ?_
    refine ao_rd rfl (by decide) (hRL []) cn (by rintro v r e; cases e) (by rintro e r e1; cases e1; (repeat (refine then_pan ?_)); exact e_rlX hB hg hres)
  | ok x =>
  obtain ⟨many, b1⟩ := x
  rw [show got 0 0 b0 = .ok (many, b1) from hgo] at cn
  obtain ⟨hlt, hm62⟩ := got_rest (b := b0) hgo
  repeat (first | refine then_nrm ?_ | refine aw_seq ?_)
  refine aw_region ?_
  refine ao1 (by decide) (o_move (v := .pt _ _ _ _) rfl) ?_
  refine ao_rd rfl (by decide) (hRL []) cn (fun v r' e => ?_) (by rintro e r e1; cases e1); cases e
  refine ao1 (by decide) (o_assign (v := .int _ _) rfl) ?_
  refine ao_nil ?_
  by_cases hmany : 1000 < many
  · have hres : rlist (c :: b0) = ([], .error 3) := by rw [rlist, if_neg hk, hgo]; simp only; rw [if_pos hmany]
    repeat (first | refine then_nrm ?_ | refine aw_seq ?_)
    refine aw_region ?_
    refine ao1 (by decide) (o_move (v := .int _ _) rfl) ?_
    refine ao1 (by decide) (o_le rfl rfl) ?_
    refine ao_need (b := false) (by refine congrArg (fun x => [AV.bool x, AV.int .i64 3]) ?_; simp; omega) (by decide) code_need (fun hb => (by cases hb)) (fun _ => (by (repeat (refine then_pan ?_)); exact e_rlX hB hg hres))
  have hrs : rlists many [] b1 = rlist (c :: b0) := by rw [rlist, if_neg hk, hgo]; simp only; rw [if_neg hmany]
  repeat (first | refine then_nrm ?_ | refine aw_seq ?_)
  refine aw_region ?_
  refine ao1 (by decide) (o_move (v := .int _ _) rfl) ?_
  refine ao1 (by decide) (o_le rfl rfl) ?_
  refine ao_need (b := true) (by refine congrArg (fun x => [AV.bool x, AV.int .i64 3]) ?_; simp; omega) (by decide) code_need (fun _ => ?_) (fun hb => (by cases hb))
  refine ao_nil ?_
  repeat (first | refine then_nrm ?_ | refine aw_seq ?_)
  refine aw_region ?_
  refine ao1 (by decide) (o_move (v := .int _ _) rfl) ?_
  refine ao1 (by decide) (o_move (v := .int _ _) rfl) ?_
  refine ao_nil ?_
  generalize hrr : rlist (c :: b0) = res at hrs
  have hb1 : b1.length ≤ 65536 := by simp at hb; omega
  clear hrr hgo cn ck hk hk'
  repeat (first | refine then_nrm ?_ | refine aw_block ?_)
  refine aw_loop (G := List (List UInt8) × List UInt8) (fun s => s.1.length ≤ many ∧ rlists (many - s.1.length) s.1 s.2 = res ∧ s.2.length ≤ 65536) (fun s => [(0, .pt R 0 0 0), (1, .pt lid 0 0 0), (11, .int .i64 (many : Int)), (12, .int .i64 (s.1.length : Int))]) (fun s => Hs (LH W lid gid s.1) R 0 s.2 ++ []) (fun s => many - s.1.length) ([], b1) ⟨Nat.zero_le _, hrs, hb1⟩ (by repeat (first | exact Sub.nil | refine Sub.cons (by rfl) ?_)) (.inl rfl) ?_
  rintro ⟨acc, bs⟩ ⟨hal, hspec, hbs⟩
  simp only at hal hspec hbs ⊢
  repeat (refine aw_seq ?_)
  refine aw_region ?_
  refine ao1 (by decide) (o_lt rfl rfl) ?_
  refine ao_nil ?_
  repeat (first | refine then_nrm ?_ | refine aw_seq ?_)
  refine aw_cond rfl (fun hc => ?_) (fun hc => ?_)
  · have hi : acc.length < many := by simp at hc; omega
    obtain ⟨m', hm'⟩ : ∃ m', many - acc.length = m' + 1 := ⟨many - acc.length - 1, by omega⟩
    rw [hm', rlists] at hspec
    have hL := fun bs => lh_lid (W := W) (lid := lid) (gid := gid) (R := R) (ps := acc) (bs := bs) hl h1
    have cp := code_part bs hbs R 0 (LH W lid gid acc ++ []) (by rw [List.append_nil]; exact hRL acc)
    rw [hs_app (hRL acc)] at cp
    cases hp : rpart bs with
    | error e =>
      rw [hp] at hspec cp
      have hres : res = (acc, .error e) := hspec.symm
      have cp2 : AC Try.prog 45 [.pt R 0 0 0] (Hs (LH W lid gid acc) R 0 bs ++ []) (fun o H' => o = .pan (.ifc TE (.int .i64 e)) ∧ ∃ r, H' = Hs (LH W lid gid acc) R 0 r ++ []) := cp.mono fun o H' hh => ⟨hh.1, by obtain ⟨_, r, h3⟩ := hh; exact ⟨r, by rw [h3, hs_app (hRL acc)]⟩⟩
      repeat (first | refine then_nrm ?_ | refine aw_seq ?_ | refine aw_block ?_ | refine aw_skip ?_)
      refine aw_drawX mixed ?_
      refine ax_all [0, 1] (by decide +kernel) (by simp) ?_
      simp only [List.forall_mem_cons, List.not_mem_nil, false_implies, implies_true, and_true]
      refine ⟨?_, ?_⟩
      · refine axt rfl (by rintro _ ⟨⟩; decide) (V1.toV2 (w_load1 (v := .sl _ _ _ _ _) rfl (lkF (hL _)) rfl rfl rfl)) ?_
        refine ax_all [1] (by decide +kernel) (by simp) ?_
        simp only [List.forall_mem_cons, List.not_mem_nil, false_implies, implies_true, and_true]
        · refine axt rfl (by rintro _ ⟨⟩; decide) (V1.toV2 (o_move (v := .pt _ _ _ _) rfl)) ?_
          refine ax_all [2] (by decide +kernel) (by simp) ?_
          simp only [List.forall_mem_cons, List.not_mem_nil, false_implies, implies_true, and_true]
          · exact axc rfl (by rintro _ ⟨⟩; decide) rfl cp2 (by rintro v H' ⟨h, _⟩; cases h) (by rintro v H' ⟨h, r, rfl⟩; cases h; (repeat (first | refine then_pan ?_ | refine blk_pan ?_)); exact e_rlX hB hg hres)
      · refine axt rfl (by rintro _ ⟨⟩; decide) (V1.toV2 (o_move (v := .pt _ _ _ _) rfl)) ?_
        refine ax_all [0, 2] (by decide +kernel) (by simp) ?_
        simp only [List.forall_mem_cons, List.not_mem_nil, false_implies, implies_true, and_true]
        refine ⟨?_, ?_⟩
        · refine axt rfl (by rintro _ ⟨⟩; decide) (V1.toV2 (w_load1 (v := .sl _ _ _ _ _) rfl (lkF (hL _)) rfl rfl rfl)) ?_
          refine ax_all [2] (by decide +kernel) (by simp) ?_
          simp only [List.forall_mem_cons, List.not_mem_nil, false_implies, implies_true, and_true]
          · exact axc rfl (by rintro _ ⟨⟩; decide) rfl cp2 (by rintro v H' ⟨h, _⟩; cases h) (by rintro v H' ⟨h, r, rfl⟩; cases h; (repeat (first | refine then_pan ?_ | refine blk_pan ?_)); exact e_rlX hB hg hres)
        · exact axc rfl (by rintro _ ⟨⟩; decide) rfl cp2 (by rintro v H' ⟨h, _⟩; cases h) (by rintro v H' ⟨h, r, rfl⟩; cases h; (repeat (first | refine then_pan ?_ | refine blk_pan ?_)); exact e_rlX hB hg hres)
    | ok y =>
      obtain ⟨p, r⟩ := y
      rw [hp] at hspec cp
      simp only at hspec
      have hrl : r.length ≤ bs.length := by
        have := congrArg List.length (rpart_inv hp).1
        rw [List.length_append] at this; omega
      have cp2 : AC Try.prog 45 [.pt R 0 0 0] (Hs (LH W lid gid acc) R 0 bs ++ []) (Ret (.pl (p.map brow)) (Hs (LH W lid gid acc) R 0 r ++ [])) := cp.mono fun o H' hh => ⟨hh.1, by rw [hh.2, hs_app (hRL acc)]⟩
      have hG := lh_gid (W := W) (lid := lid) (gid := gid) (R := R) (ps := acc) (bs := r) hg h2 hne
      have htk : (acc.map eB).take acc.length ++ [eB p] = (acc ++ [p]).map eB := by rw [List.take_of_length_le (by simp), List.map_append]; rfl
      have hL2 : ((Hs (LH W lid gid acc) R 0 r).set gid ⟨acc.length + 1 + 1, 1, (acc ++ [p]).map eB⟩)[lid]? = some ⟨0, 1, [[.sl gid (acc.length + 1) 0 acc.length acc.length]]⟩ := by rw [List.getElem?_set_ne hne.symm]; exact hL r
      have hapP : ∀ env : Env, aev env (.tmp 14) = .sl gid (acc.length + 1) 0 acc.length acc.length → aev env (.tmp 17) = .pl [[.pl (p.map brow)]] → V2 Try.prog 20 (.call { callee := .builtin .append, args := #[.tmp 14, .tmp 17], argTypes := #[26, 26] }) 26 env (Hs (LH W lid gid acc) R 0 r ++ []) (.sl gid (acc.length + 1 + 1) 0 (acc.length + 1) (acc.length + 1)) ((Hs (LH W lid gid acc) R 0 r).set gid ⟨acc.length + 1 + 1, 1, (acc ++ [p]).map eB⟩ ++ []) := fun env k1 k2 => by
        have := w_appendF (P := Try.prog) (N := 20) (ty := 26) (t := 26) (t' := 26) (e := 28) (agg := false) (sz := 1) (bytes := 24) (zs := [.nsl]) (H0 := Hs (LH W lid gid acc) R 0 r) (L := []) (acc.length + 1) k1 hG rfl rfl (Src.pl (ys := [eB p]) k2 (by simp)) rfl (by simp) (by (simp; omega)) (by (simp; omega)) (by (simp; done))
        rw [htk] at this
        exact this
      repeat (first | refine then_nrm ?_ | refine aw_seq ?_ | refine aw_block ?_ | refine aw_skip ?_)
      refine aw_joinQ ([(0, .pt R 0 0 0), (1, .pt lid 0 0 0), (11, .int .i64 (many : Int)), (12, .int .i64 (acc.length : Int))]) (Hs (LH W lid gid (acc ++ [p])) R 0 r ++ []) ?_ ?_
      · repeat (fail)
        refine aw_drawX mixed ?_
        refine ax_all [0, 1] (by decide +kernel) (by simp) ?_
        simp only [List.forall_mem_cons, List.not_mem_nil, false_implies, implies_true, and_true]
        refine ⟨?_, ?_⟩
        · refine axt rfl (by rintro _ ⟨⟩; decide) (V1.toV2 (w_load1 (v := .sl _ _ _ _ _) rfl (lkF (hL _)) rfl rfl rfl)) ?_
          refine ax_all [1] (by decide +kernel) (by simp) ?_
          simp only [List.forall_mem_cons, List.not_mem_nil, false_implies, implies_true, and_true]
          · refine axt rfl (by rintro _ ⟨⟩; decide) (V1.toV2 (o_move (v := .pt _ _ _ _) rfl)) ?_
            refine ax_all [2] (by decide +kernel) (by simp) ?_
            simp only [List.forall_mem_cons, List.not_mem_nil, false_implies, implies_true, and_true]
            · refine axt rfl (by rintro _ ⟨⟩; decide) (V2.call (cp2) rfl) ?_
              refine ax_all [3] (by decide +kernel) (by simp) ?_
              simp only [List.forall_mem_cons, List.not_mem_nil, false_implies, implies_true, and_true]
              · refine axt rfl (by rintro _ ⟨⟩; decide) (g_lit1 (sz := 1) (v := .pl _) rfl (by decide) (by decide) rfl rfl rfl rfl rfl) ?_
                refine ax_all [4] (by decide +kernel) (by simp) ?_
                simp only [List.forall_mem_cons, List.not_mem_nil, false_implies, implies_true, and_true]
                · refine axt rfl (by rintro _ ⟨⟩; decide) (hapP _ rfl rfl) ?_
                  refine ax_all [5] (by decide +kernel) (by simp) ?_
                  simp only [List.forall_mem_cons, List.not_mem_nil, false_implies, implies_true, and_true]
                  · refine axt rfl (by rintro _ ⟨⟩) (w_storeFP (sz := 1) (v := .sl _ _ _ _ _) (r' := [.sl gid (acc.length + 1 + 1) 0 (acc.length + 1) (acc.length + 1)]) rfl hL2 rfl rfl rfl rfl rfl (Nat.le_refl 1) rfl) ?_
                    refine ax_done (by decide +kernel) ?_
                    try dsimp only [put, AV.cells, List.set_cons_zero]
                    exact join_nrm (by repeat (first | exact Sub.nil | refine Sub.cons (by rfl) ?_)) (.inl (by rw [← lh_step h2 h1 hne]))
        · refine axt rfl (by rintro _ ⟨⟩; decide) (V1.toV2 (o_move (v := .pt _ _ _ _) rfl)) ?_
          refine ax_all [0, 2] (by decide +kernel) (by simp) ?_
          simp only [List.forall_mem_cons, List.not_mem_nil, false_implies, implies_true, and_true]
          refine ⟨?_, ?_⟩
          · refine axt rfl (by rintro _ ⟨⟩; decide) (V1.toV2 (w_load1 (v := .sl _ _ _ _ _) rfl (lkF (hL _)) rfl rfl rfl)) ?_
            refine ax_all [2] (by decide +kernel) (by simp) ?_
            simp only [List.forall_mem_cons, List.not_mem_nil, false_implies, implies_true, and_true]
            · refine axt rfl (by rintro _ ⟨⟩; decide) (V2.call (cp2) rfl) ?_
              refine ax_all [3] (by decide +kernel) (by simp) ?_
              simp only [List.forall_mem_cons, List.not_mem_nil, false_implies, implies_true, and_true]
              · refine axt rfl (by rintro _ ⟨⟩; decide) (g_lit1 (sz := 1) (v := .pl _) rfl (by decide) (by decide) rfl rfl rfl rfl rfl) ?_
                refine ax_all [4] (by decide +kernel) (by simp) ?_
                simp only [List.forall_mem_cons, List.not_mem_nil, false_implies, implies_true, and_true]
                · refine axt rfl (by rintro _ ⟨⟩; decide) (hapP _ rfl rfl) ?_
                  refine ax_all [5] (by decide +kernel) (by simp) ?_
                  simp only [List.forall_mem_cons, List.not_mem_nil, false_implies, implies_true, and_true]
                  · refine axt rfl (by rintro _ ⟨⟩) (w_storeFP (sz := 1) (v := .sl _ _ _ _ _) (r' := [.sl gid (acc.length + 1 + 1) 0 (acc.length + 1) (acc.length + 1)]) rfl hL2 rfl rfl rfl rfl rfl (Nat.le_refl 1) rfl) ?_
                    refine ax_done (by decide +kernel) ?_
                    try dsimp only [put, AV.cells, List.set_cons_zero]
                    exact join_nrm (by repeat (first | exact Sub.nil | refine Sub.cons (by rfl) ?_)) (.inl (by rw [← lh_step h2 h1 hne]))
          · refine axt rfl (by rintro _ ⟨⟩; decide) (V2.call (cp2) rfl) ?_
            refine ax_all [0, 3] (by decide +kernel) (by simp) ?_
            simp only [List.forall_mem_cons, List.not_mem_nil, false_implies, implies_true, and_true]
            refine ⟨?_, ?_⟩
            · refine axt rfl (by rintro _ ⟨⟩; decide) (V1.toV2 (w_load1 (v := .sl _ _ _ _ _) rfl (lkF (hL _)) rfl rfl rfl)) ?_
              refine ax_all [3] (by decide +kernel) (by simp) ?_
              simp only [List.forall_mem_cons, List.not_mem_nil, false_implies, implies_true, and_true]
              · refine axt rfl (by rintro _ ⟨⟩; decide) (g_lit1 (sz := 1) (v := .pl _) rfl (by decide) (by decide) rfl rfl rfl rfl rfl) ?_
                refine ax_all [4] (by decide +kernel) (by simp) ?_
                simp only [List.forall_mem_cons, List.not_mem_nil, false_implies, implies_true, and_true]
                · refine axt rfl (by rintro _ ⟨⟩; decide) (hapP _ rfl rfl) ?_
                  refine ax_all [5] (by decide +kernel) (by simp) ?_
                  simp only [List.forall_mem_cons, List.not_mem_nil, false_implies, implies_true, and_true]
                  · refine axt rfl (by rintro _ ⟨⟩) (w_storeFP (sz := 1) (v := .sl _ _ _ _ _) (r' := [.sl gid (acc.length + 1 + 1) 0 (acc.length + 1) (acc.length + 1)]) rfl hL2 rfl rfl rfl rfl rfl (Nat.le_refl 1) rfl) ?_
                    refine ax_done (by decide +kernel) ?_
                    try dsimp only [put, AV.cells, List.set_cons_zero]
                    exact join_nrm (by repeat (first | exact Sub.nil | refine Sub.cons (by rfl) ?_)) (.inl (by rw [← lh_step h2 h1 hne]))
            · refine axt rfl (by rintro _ ⟨⟩; decide) (g_lit1 (sz := 1) (v := .pl _) rfl (by decide) (by decide) rfl rfl rfl rfl rfl) ?_
              refine ax_all [0] (by decide +kernel) (by simp) ?_
              simp only [List.forall_mem_cons, List.not_mem_nil, false_implies, implies_true, and_true]
              · refine axt rfl (by rintro _ ⟨⟩; decide) (V1.toV2 (w_load1 (v := .sl _ _ _ _ _) rfl (lkF (hL _)) rfl rfl rfl)) ?_
                refine ax_all [4] (by decide +kernel) (by simp) ?_
                simp only [List.forall_mem_cons, List.not_mem_nil, false_implies, implies_true, and_true]
                · refine axt rfl (by rintro _ ⟨⟩; decide) (hapP _ rfl rfl) ?_
                  refine ax_all [5] (by decide +kernel) (by simp) ?_
                  simp only [List.forall_mem_cons, List.not_mem_nil, false_implies, implies_true, and_true]
                  · refine axt rfl (by rintro _ ⟨⟩) (w_storeFP (sz := 1) (v := .sl _ _ _ _ _) (r' := [.sl gid (acc.length + 1 + 1) 0 (acc.length + 1) (acc.length + 1)]) rfl hL2 rfl rfl rfl rfl rfl (Nat.le_refl 1) rfl) ?_
                    refine ax_done (by decide +kernel) ?_
                    try dsimp only [put, AV.cells, List.set_cons_zero]
                    exact join_nrm (by repeat (first | exact Sub.nil | refine Sub.cons (by rfl) ?_)) (.inl (by rw [← lh_step h2 h1 hne]))
      repeat (first | refine then_nrm ?_ | refine blk_nrm ?_)
      refine aw_region ?_
      refine ao1 (by decide) (o_add (r := ((acc.length + 1 : Nat) : Int)) rfl rfl (wrap64_ok (by omega) (by omega))) ?_
      refine ao1 (by decide) (o_move (v := .int _ _) rfl) ?_
      refine ao_nil ?_
      repeat (refine then_nrm ?_)
      exact ⟨(acc ++ [p], r), by simp only [List.length_append, List.length_cons, List.length_nil]; omega, ⟨by simp only [List.length_append, List.length_cons, List.length_nil]; omega, by simp only [List.length_append, List.length_cons, List.length_nil]; rw [show many - (acc.length + (0 + 1)) = m' by omega]; exact hspec, by simp only; omega⟩, by simp only [List.length_append, List.length_cons, List.length_nil, Nat.zero_add]; exact (by repeat (first | exact Sub.nil | refine Sub.cons (by rfl) ?_)), .inl rfl⟩
  · have hi : many - acc.length = 0 := by simp at hc; omega
    rw [hi, rlists] at hspec
    repeat (first | refine then_brk ?_ | refine blk_hit ?_ | refine aw_exit ?_)
    exact e_rl hB hg hspec.symm
end Go.Av

/-
  APPEND ONTO A SLICE THAT DOES NOT BEGIN AT ITS ROW's HEAD (a queue): in place, or into a new row. AND where many ways meet.
-/
namespace Go.Av
section
variable {P : Program} {N : Nat} {B : Base} {Q : Post} {env : Env} {H H0 L : Heap} {ty : TypeId} {ops : Array Oper} {rest : List Oper}
theorem o_appendO {t t' e : TypeId} {x y : Operand} {id off len cap sz bytes : Nat} {agg : Bool} {zs : List AV} {o : AObj} {ys : List (List AV)} [hu : SlI P t e] [NiI P t'] [TyI P e agg sz] [hz : ZcI P e zs] [ByI P e bytes] (hn : zs.length = sz)
    (hx : aev env x = .sl id o.gen off len cap) (hid : H[id]? = some o) (hsz : o.sz = sz) (hlen : off + len ≤ o.rows.length) (hy : Src P N env H y sz ys) (h63 : len + ys.length ≤ 9223372036854775807) (hb : (len + ys.length) * bytes ≤ 140737488355328) (hne : 0 < ys.length) (dst : Option Nat) (pos : String) (after : Array Edge) (guard : Option (Nat × Bool)) :
    AOp P N ⟨dst, .call { callee := .builtin .append, args := #[x, y], argTypes := #[t, t'] }, ty, pos, after, guard⟩ env H
      (fun v H' => ∃ js, (js = o.rows.take off ∨ js = []) ∧ v = .sl id (o.gen + 1) js.length (len + ys.length) (len + ys.length) ∧ H' = H.set id ⟨o.gen + 1, o.sz, js ++ (o.rows.drop off).take len ++ ys⟩) (fun _ _ => False) := by
  intro S a w hc next Q hnext _
  obtain ⟨news, hs⟩ := hy S a w hc
  obtain ⟨s, c, hsl, ok, hcc, hlc, h⟩ := hc.slc hx hid
  have hlt : id < S.length := (List.getElem?_eq_some_iff.1 hsl).1
  have hgen : s.gen = o.gen := ok.gen.symm
  have hssz : s.sz = sz := by rw [← ok.sz]; exact hsz
  have hnl := hs.cells.1
  rw [flat_length hs.wide] at hnl
  generalize hms : (o.rows.drop off).take len = ms
  have hml : ms.length = len := by rw [← hms, List.length_take, List.length_drop]; omega
  have hmg : ∀ i r, ms[i]? = some r → o.rows[off + i]? = some r := by
    intro i r hr
    rw [← hms, List.getElem?_take] at hr
    split at hr
    · rwa [List.getElem?_drop] at hr
    · cases hr
  -- what grows into a new block
  have grown : ∀ (ad : Option Addr) (olds : Array Value), a.eval x = .slice ad len c → c < len + ys.length → (∀ w', w'.heap = w.heap → (Builtin.firstCells sz len (.slice ad len c)).run P w' = .ok olds w') →
      CellsR S w ms.flatten olds → (∀ r ∈ ms, r.length = sz) → Oper.wp P ⟨dst, .call { callee := .builtin .append, args := #[x, y], argTypes := #[t, t'] }, ty, pos, after, guard⟩ a w next Q := by
    intro ad olds he hroom hold hco hwo
    obtain ⟨cap', rest, h1, h2, hr⟩ := run_append_out (P := P) (t := t) (t' := t') (e := e) (ty := ty) (sz := sz) (bytes := bytes) (agg := agg) (zs := zs) hs hold hroom h63 hb
    have hm := Made.drew_alloc w (olds ++ news ++ rest) e
    have hwide : ∀ r ∈ ms ++ ys, r.length = sz := by
      intro r hr
      rcases List.mem_append.1 hr with h | h
      · exact hwo r h
      · exact hs.wide r h
    have hrow0 : RowOK (own S) S w sz (olds ++ news ++ rest) (ms ++ ys) := RowOK.of_cells hwide (by rw [List.flatten_append]; exact hco.append hs.cells)
    have hx' : Ext S w (S.set id ⟨s.gen + 1, s.sz, some w.heap.size⟩) (w.drew.alloc (.cells (olds ++ news ++ rest) e)) := by
      refine ⟨hm.os, hm.tape, hm.output, ⟨by rw [hm.size]; omega, fun b hb' ho => ⟨fun k => ?_, hm.old b hb'⟩, fun b arr ty hb' => ⟨arr, by rw [hm.old b (Array.getElem?_eq_some_iff.1 hb').1]; exact hb', rfl⟩⟩, SExt.bump hsl (by simp)⟩
      obtain ⟨i, si, hi, hpi⟩ := k
      by_cases e1 : id = i
      · subst e1
        rw [List.getElem?_set_self hlt] at hi
        obtain rfl := Option.some.inj hi
        simp at hpi
        omega
      · rw [List.getElem?_set_ne e1] at hi
        exact ho ⟨i, si, hi, hpi⟩
    have hh := hc.heap.move (rows' := ms ++ ys) hid hsl hx' (fun j sj hj hpj => by
        have := own_lt hc.heap ⟨j, sj, hj, hpj⟩
        omega) (fun j sj b' hj _ hpj => hm.old b' (own_lt hc.heap ⟨j, sj, hj, hpj⟩)) hm.new (by rw [hsz]; exact hrow0.mono hx'.stp hx'.slots)
    have hrun : (execOp a.eval ⟨dst, .call { callee := .builtin .append, args := #[x, y], argTypes := #[t, t'] }, ty, pos, after, guard⟩).run P w = .ok (.value (.slice (some ⟨w.heap.size, 0, none⟩) (len + ys.length) cap')) (w.drew.alloc (.cells (olds ++ news ++ rest) e)) := by
      simp [execOp, resolve, invoke, builtin, he, hr]
    unfold Oper.wp
    rw [hrun]
    refine hnext _ _ _ _ _ ⟨[], .inr rfl, rfl, by rw [List.nil_append, hms]⟩ hh hx' ?_
    refine .sl ⟨s.gen + 1, s.sz, some w.heap.size⟩ (List.getElem?_set_self hlt) (by simp [hgen]) rfl fun _ => ⟨cap', by omega, h1, .inr ⟨w.heap.size, _, _, rfl, by simp, hm.new, ?_⟩⟩
    have hol := hco.1
    rw [flat_length hwo] at hol
    simp only [Array.size_append, ← hnl, ← hol, h2, hn, hml, ← Nat.add_mul, Nat.zero_add, List.length_nil]
    rw [hssz]
    exact Nat.mul_le_mul_right _ (by omega)
  rcases h with ⟨h0, ad, he⟩ | ⟨b, arr, et, hp, he, hbl, hfit, hrow⟩
  · have el : len = 0 := by omega
    subst el
    subst h0
    have : ms = [] := List.eq_nil_of_length_eq_zero hml
    subst this
    refine grown ad #[] he (by omega) (fun w' _ => ?_) ⟨by simp, fun _ _ h => by simp at h⟩ (by simp)
    cases ad with
    | none => rfl
    | some ad => simp [Builtin.firstCells, loadCells, loadCellsFrom]
  · have hwa : ∀ r ∈ o.rows, r.length = sz := by
      intro r hr
      obtain ⟨i, hi⟩ := List.mem_iff_getElem?.1 hr
      rw [← hsz]
      exact (hrow.2 i r hi).1
    have hwo : ∀ r ∈ ms, r.length = sz := by
      intro r hr
      obtain ⟨i, hi⟩ := List.mem_iff_getElem?.1 hr
      exact hwa r (List.mem_of_getElem? (hmg i r hi))
    by_cases hroom : len + ys.length ≤ c
    · -- in place
      have hr := run_append_in (P := P) (t := t) (t' := t') (e := e) (ty := ty) (agg := agg) hs (base := some ⟨b, off * o.sz, none⟩) hroom
      generalize hM : off + len = M at hlen
      have hpo : off * o.sz + len * sz = M * sz := by rw [hsz, ← Nat.add_mul, hM]
      have hfit2 : M * sz + news.size ≤ arr.size := by
        rw [← hnl, ← Nat.add_mul]
        rw [hsz] at hfit
        exact Nat.le_trans (Nat.mul_le_mul_right _ (by omega)) hfit
      have hst := run_storeCells_at P b (M * sz) et news.toList 0 arr w hbl (by simpa using hfit2) hs.one
      simp only [Nat.add_zero, Array.length_toList] at hst
      have hsize : (arr.toList.take (M * sz) ++ news.toList ++ arr.toList.drop (M * sz + news.size)).toArray.size = arr.size := by
        simp
        omega
      have ho : own S b := ⟨id, s, hsl, hp⟩
      have hx' : Ext S w (S.set id ⟨s.gen + 1, s.sz, some b⟩) (w.setRow b (arr.toList.take (M * sz) ++ news.toList ++ arr.toList.drop (M * sz + news.size)).toArray) := by
        refine .of_row ho rfl rfl rfl (by simp) (fun k _ hk => setRow_other w b k _ hk) (fun a' t'' h' => ?_) (fun k hk hno k' => ?_) (SExt.bump hsl (by simp))
        · rw [hbl] at h'
          injection h' with h'
          injection h' with h1 h2
          subst h1; subst h2
          exact ⟨_, setRow_heap w b arr _ et (0, 0) hbl, hsize⟩
        · obtain ⟨i, si, hi, hpi⟩ := k'
          by_cases e1 : id = i
          · subst e1
            rw [List.getElem?_set_self hlt] at hi
            obtain rfl := Option.some.inj hi
            simp at hpi
            subst hpi
            exact hno ho
          · rw [List.getElem?_set_ne e1] at hi
            exact hno ⟨i, si, hi, hpi⟩
      have hsplit : o.rows.take M = o.rows.take off ++ ms := by rw [← hM, ← hms, List.take_add]
      have hwt : ∀ r ∈ o.rows.take M, r.length = sz := fun r hr => hwa r (List.mem_of_mem_take hr)
      have hwide : ∀ r ∈ o.rows.take M ++ ys, r.length = sz := by
        intro r hr
        rcases List.mem_append.1 hr with h | h
        · exact hwt r h
        · exact hs.wide r h
      have hrow' : RowOK (own S) S w sz (arr.toList.take (M * sz) ++ news.toList ++ arr.toList.drop (M * sz + news.size)).toArray (o.rows.take M ++ ys) := by
        have e1 : (arr.toList.take (M * sz) ++ news.toList ++ arr.toList.drop (M * sz + news.size)).toArray = (arr.toList.take (M * sz)).toArray ++ news ++ (arr.toList.drop (M * sz + news.size)).toArray := by
          simp
        rw [e1]
        refine RowOK.of_cells hwide ?_
        rw [List.flatten_append]
        refine CellsR.append ?_ hs.cells
        have hl2 : (o.rows.take M).flatten.length = M * sz := by rw [flat_length hwt, List.length_take, Nat.min_eq_left hlen]
        have hle : M * sz ≤ arr.size := by omega
        refine ⟨by rw [hl2]; simp; omega, fun k v hk => ?_⟩
        have hklt : k < M * sz := by rw [← hl2]; exact (List.getElem?_eq_some_iff.1 hk).1
        have hpos : 0 < sz := by rcases Nat.eq_zero_or_pos sz with e | e; · subst e; simp at hklt
                                 · exact e
        have hi : k / sz < (o.rows.take M).length := by rw [List.length_take, Nat.min_eq_left hlen]; exact (Nat.div_lt_iff_lt_mul hpos).2 hklt
        have hj : k % sz < sz := Nat.mod_lt _ hpos
        have hk' : k / sz * sz + k % sz = k := Nat.div_add_mod' k sz
        have h3 := flat_get hwt (List.getElem?_eq_getElem hi) hj
        rw [hk', hk] at h3
        have h4 : o.rows[k / sz]? = some (o.rows.take M)[k / sz] := by
          have := List.getElem?_eq_getElem hi
          rw [List.getElem?_take] at this
          split at this
          · exact this
          · cases this
        obtain ⟨k1, u, k2, k3⟩ := (hrow.2 _ _ h4).2 _ v h3.symm
        rw [hsz, hk'] at k2
        exact ⟨k1, u, by simp [hklt, k2], k3⟩
      have hh := hc.heap.move (rows' := o.rows.take M ++ ys) hid hsl hx' (fun j sj hj hpj => hc.heap.inj j id sj s b hj hsl hpj hp) (fun j sj b' hj hne' hpj => setRow_other w b b' _ (fun e => hne' (hc.heap.inj j id sj s b hj hsl (e ▸ hpj) hp)))
        (setRow_heap w b arr _ et (0, 0) hbl) (by rw [hsz]; exact hrow'.mono hx'.stp hx'.slots)
      have hrun : (execOp a.eval ⟨dst, .call { callee := .builtin .append, args := #[x, y], argTypes := #[t, t'] }, ty, pos, after, guard⟩).run P w = .ok (.value (.slice (some ⟨b, off * o.sz, none⟩) (len + ys.length) c)) (w.setRow b (arr.toList.take (M * sz) ++ news.toList ++ arr.toList.drop (M * sz + news.size)).toArray) := by
        simp only [add_none, hpo, hst] at hr
        simp [execOp, resolve, invoke, builtin, he, hr]
      unfold Oper.wp
      rw [hrun]
      have hol : (o.rows.take off).length = off := by rw [List.length_take]; omega
      refine hnext _ _ _ _ _ ⟨o.rows.take off, .inl rfl, rfl, by rw [hms, ← hsplit]⟩ hh hx' ?_
      refine .sl ⟨s.gen + 1, s.sz, some b⟩ (List.getElem?_set_self hlt) (by simp [hgen]) rfl fun _ => ⟨c, by omega, by omega, .inr ⟨b, _, _, rfl, by simp [hol, hssz, hsz], setRow_heap w b arr _ et (0, 0) hbl, ?_⟩⟩
      rw [hsize, hssz, hol, ← hsz]
      exact hfit
    · -- into a new block
      have hcell : ∀ k, k < len * sz → w.cell? ((⟨b, off * o.sz, none⟩ : Addr).add k) = some ((fun k => arr.getD (off * sz + k) undef) k) := by
        intro k hk
        have : off * sz + k < arr.size := by
          have h1 : (off + len) * o.sz ≤ (off + c) * o.sz := Nat.mul_le_mul_right _ (by omega)
          rw [hsz, Nat.add_mul] at h1
          rw [hsz] at hfit
          omega
        rw [add_none, cell_of_row w b _ arr _ _ hbl, hsz]
        simp [this]
      have hco : CellsR S w ms.flatten ((List.range (ms.length * sz)).map fun k => arr.getD (off * sz + k) undef).toArray := flat_cells hwo fun i r hr j v hv' => by
        obtain ⟨h1, u, h2, h3⟩ := (hrow.2 _ r (hmg i r hr)).2 j v hv'
        refine ⟨h1, ?_⟩
        rw [hsz] at h2
        have e : arr.getD (off * sz + (i * sz + j)) undef = u := by rw [← Nat.add_assoc, ← Nat.add_mul]; simp [h2]
        rw [e]
        exact h3
      rw [hml] at hco
      exact grown (some ⟨b, off * o.sz, none⟩) _ he (by omega) (fun w' hw' => first_cells hcell w' hw') hco hwo
/-- As a walk uses it. -/
theorem ao_appO {t t' e : TypeId} {x y : Operand} {n k g off len cap sz bytes d : Nat} {agg : Bool} {zs : List AV} {o : AObj} {ys : List (List AV)} {pos : String} {after : Array Edge} [hu : SlI P t e] [NiI P t'] [TyI P e agg sz] [hz : ZcI P e zs] [ByI P e bytes]
    (hd : d < N) (hx : aev env x = .sl (Lid n k) g off len cap) (hn : H0.length = n) (hk : L[k]? = some o) (hg : o.gen = g) (hsz : o.sz = sz) (hy : Src P N env (H0 ++ L) y sz ys) (hz' : zs.length = sz) (hlen : off + len ≤ o.rows.length) (hne : 0 < ys.length) (h63 : len + ys.length ≤ 9223372036854775807) (hb : (len + ys.length) * bytes ≤ 140737488355328)
    (h : ∀ js, (js = o.rows.take off ∨ js = []) → AOps P N B ops rest Q ((d, .sl (Lid n k) (g + 1) js.length (len + ys.length) (len + ys.length)) :: env) (H0 ++ L.set k ⟨g + 1, o.sz, js ++ (o.rows.drop off).take len ++ ys⟩)) :
    AOps P N B ops (⟨some d, .call { callee := .builtin .append, args := #[x, y], argTypes := #[t, t'] }, ty, pos, after, none⟩ :: rest) Q env (H0 ++ L) := by
  subst hg
  refine ao_cons rfl (by rintro _ ⟨⟩; exact hd) (o_appendO (agg := agg) (e := e) (zs := zs) (bytes := bytes) hz' hx (lk hn hk) hsz hlen hy h63 hb hne _ _ _ _) ?_ (fun _ _ h => h.elim)
  rintro _ _ ⟨js, hjs, rfl, rfl⟩
  rw [st hn]
  exact h js hjs
end

/-! #### where many ways meet -/
def JoinG (B : Base) {G : Type} (I : G → Prop) (E : G → Env) (M : G → Heap) (Q : Post) : Post
  | .nrm, e, H => ∃ g, I g ∧ Sub (E g) e ∧ Fit B (E g) H (M g)
  | x, e, H => Q x e H
section
variable {P : Program} {N : Nat} {B : Base} {Q : Post} {env : Env} {H : Heap}
theorem aw_joinG {x : Code} {G : Type} (I : G → Prop) (E : G → Env) (M : G → Heap) (h : AWp P N B x (JoinG B I E M Q) env H) (k : ∀ g, I g → Q .nrm (E g) (M g)) : AWp P N B x Q env H := by
  intro S a w hc hb
  refine wp_mono (h S a w hc hb) ?_
  rintro e a' w' ⟨ax, env', H', S', hj, r, c', k'⟩
  cases ax with
  | nrm =>
    cases r
    obtain ⟨g, hi, hs, hf⟩ := hj
    obtain ⟨S2, c2, k2⟩ := (c'.sub hs).fit k' hf
    exact ⟨.nrm, E g, M g, S2, k g hi, .nrm, c2, k2⟩
  | brk i => exact ⟨_, env', H', S', hj, r, c', k'⟩
  | ret => exact ⟨_, env', H', S', hj, r, c', k'⟩
  | pan v => exact ⟨_, env', H', S', hj, r, c', k'⟩
theorem joinG_nrm {G : Type} {I : G → Prop} {E : G → Env} {M : G → Heap} (g : G) (hi : I g) (h1 : Sub (E g) env) (h2 : Fit B (E g) H (M g)) : JoinG B I E M Q .nrm env H := ⟨g, hi, h1, h2⟩
theorem joinG_ret {G : Type} {I : G → Prop} {E : G → Env} {M : G → Heap} (h : Q .ret env H) : JoinG B I E M Q .ret env H := h
theorem joinG_brk {G : Type} {I : G → Prop} {E : G → Env} {M : G → Heap} {i : Nat} (h : Q (.brk i) env H) : JoinG B I E M Q (.brk i) env H := h
end
end Go.Av

