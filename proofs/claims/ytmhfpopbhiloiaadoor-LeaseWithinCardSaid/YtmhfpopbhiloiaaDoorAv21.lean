/-
  CALLS OF WHAT THE MODEL ITSELF ANSWERS (a body that is not Go); a rune as a text.
-/
import Derived.Test.YtmhfpopbhiloiaaDoorAv20
import Derived.Test.YtmhfpopbhiloiaaDoorAv10
import Derived.Test.YtmhfpopbhiloiaaDoorAv14
import Derived.Lib.Bytealg
import Derived.Laws.Externs
namespace Go.Av
section
variable {P : Program} {N : Nat} {B : Base} {Q : Post} {env : Env} {H : Heap} {ty : TypeId}
theorem o_extern {f : FuncId} {fn : Func} {e : Array Value → Sem Value} {xs : Array Operand} {ts : Array TypeId} {v : AV} (hf : P.funcs[f]? = some fn) (hname : (fn.name == "runtime.NumGoroutine") = false) (hb : fn.body.isNone = true) (hn : Extern.findNext fn = none) (he : Extern.find fn = some e)
    (h : ∀ S a w, CR N env H S a w → ∃ u, (e (xs.map a.eval)).run P w = .ok u w ∧ VR (own S) w S v u) :
    V1 P N (.call { callee := .value (.func f), args := xs, argTypes := ts }) ty env H v := by
  intro S a w hc
  obtain ⟨u, h1, h2⟩ := h S a w hc
  refine ⟨u, fun dst pos after guard => ?_, h2⟩
  simp [execOp, resolve, Act.eval, Deferred.ofValue, invoke, run_callFunc_extern hf hname hb hn he, h1, Result.andThen]
theorem o_indexByteStr {f : FuncId} {fn : Func} {x y : Operand} {ts : Array TypeId} {s : ByteArray} {c : Int} (hf : P.funcs[f]? = some fn) (hname : (fn.name == "runtime.NumGoroutine") = false) (hb : fn.body.isNone = true) (hn : Extern.findNext fn = none) (he : Extern.find fn = some Extern.BytealgIndexByte.indexByte)
    (hx : aev env x = .str s) (hy : aev env y = .int .u8 c) : V1 P N (.call { callee := .value (.func f), args := #[x, y], argTypes := ts }) ty env H (.int .i64 (Lib.indexByte s.data.toList c.toNat.toUInt8)) := by
  refine o_extern hf hname hb hn he fun S a w hc => ?_
  have h1 := hc.ev x
  have h2 := hc.ev y
  rw [hx] at h1
  rw [hy] at h2
  refine ⟨.int .i64 (Lib.indexByte s.data.toList c.toNat.toUInt8), ?_, .int⟩
  have e : (#[x, y] : Array Operand).map a.eval = #[a.eval x, a.eval y] := by simp
  rw [e]
  generalize a.eval x = u at h1
  generalize a.eval y = u2 at h2
  cases h1
  cases h2
  exact Lib.run_indexByteString s c w
theorem o_runeStr {x : Operand} {s d : TypeId} {k : IntKind} {n : Int} [hs : UdI P s (.int k)] [hd : UdI P d .string] (hx : aev env x = .int k n) : V1 P N (.convert s d x) ty env H (.str (Utf8.encode n)) := by
  intro S a w hc
  have h1 := hc.ev x
  rw [hx] at h1
  refine ⟨.string (Utf8.encode n), fun dst pos after guard => ?_, .str⟩
  generalize hu : a.eval x = u at h1
  cases h1
  simp [execOp, hu, convert, run_und hs.ud, run_und hd.ud, Conv.intToString]
/-- A literal of many that is never written again. -/
theorem g_litL {t e : TypeId} {n sz : Nat} {parts : Array (Nat × Operand)} {agg : Bool} {zs cs : List AV} (rows : List (List AV)) [hu : SlI P t e] [TyI P e agg sz] [hz : ZcI P e zs] (hn : zs.length = sz) (hp : 0 < sz) (h0 : 0 < n) (hbig : n * sz ≤ 16777216)
    (hf : afill ((List.range n).map fun i => (i * sz, sz)) (List.replicate n zs).flatten (parts.toList.map fun (i, x) => (i, aev env x)) = some cs) (hrows : rows.flatten = cs) (hw : ∀ r ∈ rows, r.length = sz) (hlen : rows.length = n) (hb : ∀ r ∈ rows, AV.bels 0 r = true) :
    V2 P N (.buildSlice t n parts) ty env H (.pl rows) H := by
  have h1 := o_buildSliceL (P := P) (N := N) (env := env) (H0 := H) (L := []) (ty := ty) (t := t) (e := e) (agg := agg) (zs := zs) hn hp h0 hbig hf hrows hw rfl
  have := V2.freezeL (L := []) h1 rfl rfl hlen hb
  simpa using this
/-- A call of a function value. -/
theorem V2.callv {f : Nat} {x : Operand} {xs : Array Operand} {ts : Array TypeId} {v : AV} {ps qs vs : List AV} {M : Heap} [FnI P f] (hac : AC P f vs H (Ret v M)) (hx : aev env x = .fn (.func f) ps qs) (hvs : ps ++ xs.toList.map (aev env) ++ qs = vs) :
    V2 P N (.call { callee := .value x, args := xs, argTypes := ts }) ty env H v M := by
  subst hvs
  intro dst pos after guard S a w hc next Q hn hp
  refine AOp.call (P := P) (N := N) (o := ⟨dst, .call { callee := .value x, args := xs, argTypes := ts }, ty, pos, after, guard⟩) (f := f) (fun S a w hc => ?_) hac S a w hc next Q ?_ ?_
  · have hv := hc.ev x
    rw [hx] at hv
    generalize he : a.eval x = u at hv
    cases hv with
    | @fn _ _ _ _ p' q' hp hq h1 h2 =>
      refine ⟨p' ++ xs.map a.eval ++ q', ?_, (VRs.append (VRs.append ⟨hp, h1⟩ (evs_ok hc xs)) ⟨hq, h2⟩)⟩
      simp [execOp, resolve, he, Deferred.ofValue, invoke, run_callFunc (P := P) (f := f)]
  · rintro v' u H' S' w' ⟨e, rfl⟩
    injection e with e
    subst e
    exact hn _ u _ S' w' ⟨rfl, rfl⟩
  · rintro v' u H' S' w' ⟨e, _⟩
    cases e
end
theorem encode_high {n : Int} (h : 128 ≤ n) (hv : Utf8.valid n = true) : 2 ≤ (Utf8.encode n).data.toList.length ∧ (Utf8.encode n).data.toList.length ≤ 4 ∧ ∀ b ∈ (Utf8.encode n).data.toList, 128 ≤ b.toNat := by
  have hn : n.toNat < 1114112 ∧ 128 ≤ n.toNat := by
    simp [Utf8.valid] at hv
    omega
  unfold Utf8.encode
  rw [if_pos hv]
  generalize n.toNat = c at hn
  simp only
  rw [if_neg (by omega)]
  split
  · refine ⟨by simp, by simp, fun b hb => ?_⟩
    simp only [List.mem_cons, List.not_mem_nil, or_false] at hb
    rcases hb with rfl | rfl <;> simp <;> omega
  · split
    · refine ⟨by simp, by simp, fun b hb => ?_⟩
      simp only [List.mem_cons, List.not_mem_nil, or_false] at hb
      rcases hb with rfl | rfl | rfl <;> simp <;> omega
    · refine ⟨by simp, by simp, fun b hb => ?_⟩
      simp only [List.mem_cons, List.not_mem_nil, or_false] at hb
      rcases hb with rfl | rfl | rfl | rfl <;> simp <;> omega
theorem decode_high (s : ByteArray) (i : Nat) (h : 128 ≤ (s.get! i).toNat) : 128 ≤ (Utf8.decode s i).1 ∧ (Utf8.decode s i).1 ≤ 1114111 := by
  unfold Utf8.decode
  simp only [Nat.add_zero]
  rw [if_neg (by omega)]
  have hre : Utf8.runeError = 65533 := rfl
  repeat' split
  all_goals simp_all [Utf8.valid]
  all_goals omega
theorem decode_low (s : ByteArray) (i : Nat) (h : (s.get! i).toNat < 128) : Utf8.decode s i = ((s.get! i).toNat, 1) := by
  unfold Utf8.decode
  simp only [Nat.add_zero]
  rw [if_pos h]
end Go.Av
