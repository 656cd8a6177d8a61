/- Parts of the proof: rules for an abstract memory, plain laws, and walks through the program. -/
import Derived.Test.YtcncbmpblkgfjaaGreatDoorInstP0
import Derived.Test.YtcncbmpblkgfjaaGreatDoorInstP3
import Derived.Test.YtcncbmpblkgfjaaGreatDoorInstP2
import Derived.Lib.Overlaps
import Derived.Sort.Grow
import Derived.Ground.SlgnProg
import Derived.Shelf.SlicesG.CompactI
import Derived.Ground.SlgmProg
import Derived.Shelf.SortM.Plain
import Derived.Shelf.SortM.SortNone
import Derived.Test.YtcncbmpblkgfjaaGreatDoorProg
import Derived.Lib.SlicesCompact
set_option linter.unusedVariables false
set_option linter.unusedSimpArgs false
namespace Go.Av
open Go.Proofs
set_option maxRecDepth 10000
set_option linter.unusedSimpArgs false
set_option linter.unusedVariables false
abbrev eSeek (g : List Thing) (free : List Int) (s : Spec) : List AV := [.pl (g.map eThing), .pl (inRows g free), .pl (kidR g), .int .i64 s.nodes, .int .i64 s.cores, .int .i64 s.gpus, .str s.tag, .bool s.whole, .int .i64 s.long, .int .i64 s.prio]
abbrev eSk (g : List Thing) (n a b : Nat) (s : Spec) : List AV := [.pl (g.map eThing), .sl (n + a) 0 0 g.length g.length, .sl (n + b) 0 0 g.length g.length, .int .i64 s.nodes, .int .i64 s.cores, .int .i64 s.gpus, .str s.tag, .bool s.whole, .int .i64 s.long, .int .i64 s.prio]
theorem st_add {H0 L : Heap} {k : Nat} {o : AObj} : (H0 ++ L).set (H0.length + k) o = H0 ++ L.set k o := st rfl
theorem fcells_bel (n : Nat) (f : Nat → List Int) (M : Nat) : ∀ r ∈ fcells n f M 0, AV.bels (n + (M + 4)) r = true := by
  intro r hr
  obtain ⟨j, hj, rfl⟩ := List.mem_map.1 hr
  rw [List.mem_range] at hj
  rw [fcell, if_neg (Nat.not_lt_zero _)]
  simp [AV.bels, AV.bel]
  omega
theorem sk_bel {n M K : Nat} {f : Nat → List Int} {r0 r1 r2 r3 : AObj} (hK : K = n + (M + 4)) (h0 : ∀ r ∈ r0.rows, AV.bels K r = true) (h1 : ∀ r ∈ r1.rows, AV.bels (n + (M + 4)) r = true) (h2 : ∀ r ∈ r2.rows, AV.bels (n + (M + 4)) r = true) (h3 : ∀ r ∈ r3.rows, AV.bels K r = true) : ∀ o ∈ [r0, r1, r2, r3] ++ frows f M 0, ∀ r ∈ o.rows, AV.bels K r = true := by
  subst hK
  intro o ho r hr
  rcases List.mem_append.1 ho with ho | ho
  · simp only [List.mem_cons, List.not_mem_nil, or_false] at ho
    rcases ho with rfl | rfl | rfl | rfl
    · exact h0 r hr
    · exact h1 r hr
    · exact h2 r hr
    · exact h3 r hr
  · obtain ⟨j, _, rfl⟩ := List.mem_map.1 ho
    rw [frow, if_neg (Nat.not_lt_zero _)] at hr
    obtain ⟨x, _, rfl⟩ := List.mem_map.1 hr
    rfl
set_option maxHeartbeats 0 in
theorem match_seek (g : List Thing) (free : List Int) (s : Spec) (H : Heap) (hg : gright g = true) (hf : sok free = true) : AC Tryz.prog 215 [.pl (g.map eThing), .pl (free.map eI), .agg (eSpec s)] H (Ret (.pt (Lid H.length 3) 0 0 0) (H ++ [⟨0, 7, [eSpec s]⟩, ⟨1, 1, []⟩, ⟨1, 1, []⟩, ⟨0, 10, [eSeek g free s]⟩])) := by
  have hlen := gright_len hg
  have hfl := sok_256 hf
  have hml : (g.map eThing).length = g.length := by simp
  refine AC.body (N := 69) [.tmp 6] Tryz.func215 rfl rfl rfl (Nat.le_of_ble_eq_true rfl) fun B hB => ?_
  repeat (refine aw_seq ?_)
  refine Z1w ?_
  refine ao1 (by decide) (o_assign (v := .nptr) rfl) ?_
  refine ao_nil ?_
  refine Z1x ?_
  repeat (first | refine then_nrm ?_ | refine aw_seq ?_)
  refine Z7u ?_
  refine Z5e ?_
  refine Zha ?_
  refine aqp 2 rfl (by decide +kernel) (by decide) (fun G => o_lenp rfl) ?_
  refine Z5f ?_
  refine aqp 5 rfl (by decide +kernel) (by decide) (fun G => o_lenp rfl) ?_
  refine Zhb ?_
  refine aa_all [3, 6] (by decide +kernel) (by simp) (by exact fun _ => ⟨_, rfl⟩) ?_
  simp only [List.forall_mem_cons, List.not_mem_nil, false_implies, implies_true, and_true]
  refine ⟨?_, ?_⟩
  refine aat rfl (by rintro _ ⟨⟩; decide) (o_makeSliceL (n := g.length) (c := g.length) (bytes := 1) rfl (by decide) (congrArg (fun k : Nat => AV.int .i64 (k : Int)) hml) (congrArg (fun k : Nat => AV.int .i64 (k : Int)) hml) (Nat.le_refl _) (by omega) (by omega) rfl) ?_
  refine aqs 6 rfl (by decide +kernel) (by exact fun _ => ⟨_, rfl⟩) (by rintro _ ⟨⟩; decide) (o_makeSliceL (n := g.length) (c := g.length) (bytes := 24) rfl (by decide) (congrArg (fun k : Nat => AV.int .i64 (k : Int)) hml) (congrArg (fun k : Nat => AV.int .i64 (k : Int)) hml) (Nat.le_refl _) (by omega) (by omega) rfl) ?_
  refine Zhc ?_
  refine Zhd ?_
  refine Zhe ?_
  refine Z19 ?_
  refine Zhf ?_
  rotate_left
  refine aat rfl (by rintro _ ⟨⟩; decide) (o_makeSliceL (n := g.length) (c := g.length) (bytes := 24) rfl (by decide) (congrArg (fun k : Nat => AV.int .i64 (k : Int)) hml) (congrArg (fun k : Nat => AV.int .i64 (k : Int)) hml) (Nat.le_refl _) (by omega) (by omega) rfl) ?_
  refine aqs 3 rfl (by decide +kernel) (by exact fun _ => ⟨_, rfl⟩) (by rintro _ ⟨⟩; decide) (o_makeSliceL (n := g.length) (c := g.length) (bytes := 1) rfl (by decide) (congrArg (fun k : Nat => AV.int .i64 (k : Int)) hml) (congrArg (fun k : Nat => AV.int .i64 (k : Int)) hml) (Nat.le_refl _) (by omega) (by omega) rfl) ?_
  refine Zhc ?_
  refine Zhd ?_
  refine Zhe ?_
  refine Z19 ?_
  refine Zhf ?_
  rotate_left
  · repeat (first | refine then_nrm ?_ | refine aw_seq ?_)
    refine Z5t ?_
    repeat (first | refine then_nrm ?_ | refine aw_block ?_)
    refine aw_ghostAll (pk := 2) (M := g.length) rfl (by decide) ?_ rfl
    refine aw_loop (G := Nat) (fun k => k ≤ free.length) (fun k => [(0, .pl (g.map eThing)), (7, .pt (Lid H.length 3) 0 0 0), (22, .pl (free.map eI)), (23, .int .i64 (free.length : Int)), (24, .int .i64 (k : Int))]) (fun k => H ++ ([⟨0, 7, [eSpec s]⟩, ⟨0, 1, inRows g (free.take k)⟩, ⟨0, 1, gk H.length g.length g.length⟩, ⟨0, 10, [eSk g H.length 1 2 s]⟩] ++ List.replicate g.length ⟨0, 1, []⟩)) (fun k => free.length - k) 0 (Nat.zero_le _) (by repeat (first | exact Sub.nil | refine Sub.cons (by first | rfl | (simp [get]; done)) ?_)) (.inl (by rw [List.take_zero, inRows_nil]; rfl)) ?_
    intro k hk
    repeat (refine aw_seq ?_)
    refine Z36 ?_
    refine Z75 ?_
    repeat (first | refine then_nrm ?_ | refine aw_seq ?_)
    refine aw_cond rfl (fun hc => ?_) (fun hc => ?_)
    · have hlt : k < free.length := by simpa using hc
      obtain ⟨x, hx, hxl⟩ := get_in hlt
      have hr := map_get eI hx
      have hx0 := sok_mem hf hxl
      obtain ⟨m, rfl⟩ : ∃ m : Nat, x = (m : Int) := ⟨x.toNat, by omega⟩
      clear hc
      repeat (first | refine then_nrm ?_ | refine aw_seq ?_ | refine aw_block ?_ | refine aw_skip ?_)
      refine Z3b ?_
      repeat (first | refine then_nrm ?_ | refine aw_seq ?_)
      refine Z5d ?_
      repeat (refine then_nrm ?_)
      refine aw_cond rfl (fun hc => ?_) (fun hc => ?_)
      · have hm : m < g.length := by simp at hc; omega
        have hrow : (inRows g (free.take k))[0 + m]? = some [.bool (inl (free.take k) m)] := by rw [Nat.zero_add]; exact inRows_get hm
        clear hc
        refine Zgj ?_
        refine Zhg ?_
        refine Zhh ?_
        refine Z6 ?_
        refine Z97 ?_
        refine Zhi ?_
        refine ao_nil ?_
        refine Zh0 ?_
        repeat (first | refine then_nrm ?_ | refine blk_nrm ?_)
        refine Z3i ?_
        repeat (refine then_nrm ?_)
        exact ⟨k + 1, by omega, by omega, (by repeat (first | exact Sub.nil | refine Sub.cons (by rfl) ?_)), .inl (by rw [Nat.zero_add, inRows_set hx])⟩
      · have hm : (g.length : Int) ≤ (m : Int) := by simp at hc; omega
        clear hc
        repeat (first | refine then_nrm ?_ | refine blk_nrm ?_ | refine aw_skip ?_)
        refine Z3i ?_
        repeat (refine then_nrm ?_)
        exact ⟨k + 1, by omega, by omega, (by repeat (first | exact Sub.nil | refine Sub.cons (by rfl) ?_)), .inl (by rw [inRows_same hx hm])⟩
    have : k = free.length := by simp at hc; omega
    subst this
    clear hc
    rw [List.take_length]
    repeat (first | refine then_nrm ?_ | refine then_brk ?_ | refine blk_hit ?_ | refine aw_seq ?_ | refine aw_exit ?_)
    refine Z5t ?_
    repeat (first | refine then_nrm ?_ | refine aw_block ?_)
    refine aw_loop (G := Nat) (fun i => i ≤ g.length) (fun i => [(7, .pt (Lid H.length 3) 0 0 0), (39, .pl (g.map eThing)), (40, .int .i64 (g.length : Int)), (41, .int .i64 (i : Int))]) (fun i => H ++ ([⟨0, 7, [eSpec s]⟩, ⟨0, 1, inRows g free⟩, ⟨0, 1, fcells H.length (kidP g i) g.length 0⟩, ⟨0, 10, [eSk g H.length 1 2 s]⟩] ++ frows (kidP g i) g.length 0)) (fun i => g.length - i) 0 (Nat.zero_le _) (by repeat (first | exact Sub.nil | refine Sub.cons (by first | rfl | (simp [get]; done)) ?_)) (.inl (by rw [gk_kids, rep_kids]; rfl)) ?_
    intro i hi
    repeat (refine aw_seq ?_)
    refine Z36 ?_
    refine Z75 ?_
    repeat (first | refine then_nrm ?_ | refine aw_seq ?_)
    refine aw_cond rfl (fun hc => ?_) (fun hc => ?_)
    · have hlt : i < g.length := by simpa using hc
      obtain ⟨t, ht, htl⟩ := get_in hlt
      have hr := map_get eThing ht
      clear hc
      generalize hM : H ++ ([⟨0, 7, [eSpec s]⟩, ⟨0, 1, inRows g free⟩, ⟨0, 1, fcells H.length (kidP g i) g.length 0⟩, ⟨0, 10, [eSk g H.length 1 2 s]⟩] ++ frows (kidP g i) g.length 0) = M
      refine Zhj ?_
      have hS : M[Lid H.length 3]? = some ⟨0, 10, [eSk g H.length 1 2 s]⟩ := by rw [← hM]; exact lk rfl rfl
      have hK : M[Lid H.length 2]? = some ⟨0, 1, fcells H.length (kidP g i) g.length 0⟩ := by rw [← hM]; exact lk rfl rfl
      have hF := hS
      repeat (first | refine then_nrm ?_ | refine aw_seq ?_ | refine aw_block ?_ | refine aw_skip ?_)
      refine Z7o ?_
      refine Z7p ?_
      refine Z1 ?_
      refine Z7q ?_
      refine Z7s ?_
      repeat (first | refine then_nrm ?_ | refine aw_seq ?_)
      refine Z3p ?_
      refine Z1s ?_
      refine Z32 ?_
      repeat (refine then_nrm ?_)
      refine aw_cond rfl (fun hc => ?_) (fun hc => ?_)
      · have h2 : 2 < t.kind := by simpa using hc
        obtain ⟨u, hu, hui⟩ := gright_kid hg ht h2
        clear hc
        obtain ⟨kd, up, tag⟩ := t
        simp only at hu h2
        subst hu
        have hug : u < g.length := by omega
        have hR : M[Lid H.length (u + 4)]? = some ⟨(kidP g i u).length, 1, (kidP g i u).map eN1⟩ := by rw [← hM]; exact lk rfl (show (frows (kidP g i) g.length 0)[u]? = _ from frows_get _ hug)
        have hcell := fcells_get (n := H.length) (kidP g i) hug
        have hle := kidP_le g i u
        have hF3 : (M.set (Lid H.length (u + 4)) ⟨(kidP g i u).length + 1, 1, ((kidP g i u).map eN1).take (kidP g i u).length ++ [[.int .i64 (i : Int)]]⟩)[Lid H.length 3]? = some ⟨0, 10, [eSk g H.length 1 2 s]⟩ := by rw [List.getElem?_set_ne (by unfold Lid; omega)]; exact hS
        have hK3 : (M.set (Lid H.length (u + 4)) ⟨(kidP g i u).length + 1, 1, ((kidP g i u).map eN1).take (kidP g i u).length ++ [[.int .i64 (i : Int)]]⟩)[Lid H.length 2]? = some ⟨0, 1, fcells H.length (kidP g i) g.length 0⟩ := by rw [List.getElem?_set_ne (by unfold Lid; omega)]; exact hK
        refine Zhk ?_
        refine Z6h ?_
        refine Zev ?_
        refine Zhl ?_
        refine Zhm ?_
        refine aqn2 3 rfl (by decide +kernel) (by decide) (fun M G hn hp hp2 => w_load1 (v := .sl (H.length + 2) 0 0 g.length g.length) rfl (lkF hp) rfl rfl rfl) ?_
        refine Zhn ?_
        refine Zho ?_
        refine Zhp ?_
        refine Zhq ?_
        refine Zhr ?_
        refine aqn2 9 rfl (by decide +kernel) (by decide) (fun M G hn hp hp2 => w_load1 (v := .sl (H.length + 2) 0 0 g.length g.length) rfl (lkF hp) rfl rfl rfl) ?_
        refine Zhs ?_
        refine Zht ?_
        refine Zhu ?_
        refine Zhv ?_
        refine Zhw ?_
        refine Zhx ?_
        refine Zhy ?_
        refine Zhz ?_
        refine Zi0 ?_
        refine Z5z ?_
        refine Zi1 ?_
        repeat (first | refine then_nrm ?_ | refine blk_nrm ?_)
        refine Z3i ?_
        repeat (refine then_nrm ?_)
        refine ⟨i + 1, by omega, by omega, (by repeat (first | exact Sub.nil | refine Sub.cons (by rfl) ?_)), fit_heap (M' := H ++ (([⟨0, 7, [eSpec s]⟩, ⟨0, 1, inRows g free⟩, ⟨0, 1, fcells H.length (kidP g (i + 1)) g.length 0⟩, ⟨0, 10, [eSk g H.length 1 2 s]⟩] ++ frows (kidP g (i + 1)) g.length 0) ++ [⟨0, 3, [eThing ⟨kd, (u : Int), tag⟩]⟩])) ?_ (Fit.loc hB rfl (by repeat (first | exact EBel.nil | refine EBel.cons (by first | rfl | (simp [AV.bel, AV.bels, Lid]; done)) ?_)) (sk_bel (by (simp [frows]; done)) (by intro r hr; simp only [List.mem_singleton] at hr; subst hr; rfl) (inRows_bel _ g free) (fcells_bel _ _ _) (by intro r hr; simp only [List.mem_singleton] at hr; subst hr; (simp [AV.bels, AV.bel, frows]; done))))⟩
        rw [← hM, st_add, st_add, Nat.zero_add, kids_cells ht h2 rfl, ← List.append_assoc, ← kids_rows ht h2 rfl]
        rfl
      · have h2 : ¬ 2 < t.kind := by simpa using hc
        have hsame := kids_same (n := H.length) ht h2
        clear hc
        repeat (first | refine then_nrm ?_ | refine blk_nrm ?_ | refine aw_skip ?_)
        refine Z3i ?_
        repeat (refine then_nrm ?_)
        refine ⟨i + 1, by omega, by omega, (by repeat (first | exact Sub.nil | refine Sub.cons (by rfl) ?_)), fit_heap (M' := H ++ (([⟨0, 7, [eSpec s]⟩, ⟨0, 1, inRows g free⟩, ⟨0, 1, fcells H.length (kidP g (i + 1)) g.length 0⟩, ⟨0, 10, [eSk g H.length 1 2 s]⟩] ++ frows (kidP g (i + 1)) g.length 0) ++ [⟨0, 3, [eThing t]⟩])) ?_ (Fit.loc hB rfl (by repeat (first | exact EBel.nil | refine EBel.cons (by first | rfl | (simp [AV.bel, AV.bels, Lid]; done)) ?_)) (sk_bel (by (simp [frows]; done)) (by intro r hr; simp only [List.mem_singleton] at hr; subst hr; rfl) (inRows_bel _ g free) (fcells_bel _ _ _) (by intro r hr; simp only [List.mem_singleton] at hr; subst hr; (simp [AV.bels, AV.bel, frows]; done))))⟩
        rw [← hM, hsame.1, hsame.2, List.append_assoc]
    have : i = g.length := by simp at hc; omega
    subst this
    clear hc
    repeat (first | refine then_nrm ?_ | refine then_brk ?_ | refine blk_hit ?_ | refine aw_seq ?_ | refine aw_exit ?_)
    refine Zgj ?_
    refine Zff ?_
    repeat (refine then_nrm ?_)
    refine aw_freezeAll (L := [⟨0, 7, [eSpec s]⟩, ⟨0, 1, inRows g free⟩, ⟨0, 1, fcells H.length (kidP g g.length) g.length 0⟩, ⟨0, 10, [eSk g H.length 1 2 s]⟩]) (M := g.length) (pk := 2) (f := kidP g g.length) rfl (by decide) ?_ rfl
    refine aw_freezeC (ys := inRows g free) (i := 0) (j := 1) (k := 3) (kid := 1) 3 rfl rfl rfl rfl rfl (by decide) rfl rfl (by rw [List.drop_zero]; exact List.take_of_length_le (by simp [inRows])) (inRows_len g free) (inRows_bel 0 g free) ?_
    refine aw_freezeC (ys := kidR g) (i := 0) (j := 2) (k := 3) (kid := 2) 3 rfl rfl rfl rfl rfl (by decide) rfl rfl (by rw [List.drop_zero, fcells_all]; exact List.take_of_length_le (by simp [kidR])) (kidR_len g) (kidR_bel 0 g) ?_
    refine aw_ret ?_
    exact e_keep (K := [⟨0, 7, [eSpec s]⟩, ⟨1, 1, []⟩, ⟨1, 1, []⟩, ⟨0, 10, [eSeek g free s]⟩]) (G := frows (kidP g g.length) g.length g.length) hB (r_tmp rfl .nil) rfl rfl (by simp [AV.bel, Lid]) (by intro o ho r hr; simp only [List.mem_cons, List.not_mem_nil, or_false] at ho; rcases ho with rfl | rfl | rfl | rfl <;> simp only [List.mem_singleton, List.not_mem_nil] at hr <;> subst hr <;> rfl)
  · repeat (first | refine then_nrm ?_ | refine aw_seq ?_)
    refine Z5t ?_
    repeat (first | refine then_nrm ?_ | refine aw_block ?_)
    refine aw_ghostAll (pk := 1) (M := g.length) rfl (by decide) ?_ rfl
    refine aw_loop (G := Nat) (fun k => k ≤ free.length) (fun k => [(0, .pl (g.map eThing)), (7, .pt (Lid H.length 3) 0 0 0), (22, .pl (free.map eI)), (23, .int .i64 (free.length : Int)), (24, .int .i64 (k : Int))]) (fun k => H ++ ([⟨0, 7, [eSpec s]⟩, ⟨0, 1, gk H.length g.length g.length⟩, ⟨0, 1, inRows g (free.take k)⟩, ⟨0, 10, [eSk g H.length 2 1 s]⟩] ++ List.replicate g.length ⟨0, 1, []⟩)) (fun k => free.length - k) 0 (Nat.zero_le _) (by repeat (first | exact Sub.nil | refine Sub.cons (by first | rfl | (simp [get]; done)) ?_)) (.inl (by rw [List.take_zero, inRows_nil]; rfl)) ?_
    intro k hk
    repeat (refine aw_seq ?_)
    refine Z36 ?_
    refine Z75 ?_
    repeat (first | refine then_nrm ?_ | refine aw_seq ?_)
    refine aw_cond rfl (fun hc => ?_) (fun hc => ?_)
    · have hlt : k < free.length := by simpa using hc
      obtain ⟨x, hx, hxl⟩ := get_in hlt
      have hr := map_get eI hx
      have hx0 := sok_mem hf hxl
      obtain ⟨m, rfl⟩ : ∃ m : Nat, x = (m : Int) := ⟨x.toNat, by omega⟩
      clear hc
      repeat (first | refine then_nrm ?_ | refine aw_seq ?_ | refine aw_block ?_ | refine aw_skip ?_)
      refine Z3b ?_
      repeat (first | refine then_nrm ?_ | refine aw_seq ?_)
      refine Z5d ?_
      repeat (refine then_nrm ?_)
      refine aw_cond rfl (fun hc => ?_) (fun hc => ?_)
      · have hm : m < g.length := by simp at hc; omega
        have hrow : (inRows g (free.take k))[0 + m]? = some [.bool (inl (free.take k) m)] := by rw [Nat.zero_add]; exact inRows_get hm
        clear hc
        refine Zgj ?_
        refine Zhg ?_
        refine Zhh ?_
        refine Z6 ?_
        refine Z97 ?_
        refine Zhi ?_
        refine ao_nil ?_
        refine Zh0 ?_
        repeat (first | refine then_nrm ?_ | refine blk_nrm ?_)
        refine Z3i ?_
        repeat (refine then_nrm ?_)
        exact ⟨k + 1, by omega, by omega, (by repeat (first | exact Sub.nil | refine Sub.cons (by rfl) ?_)), .inl (by rw [Nat.zero_add, inRows_set hx])⟩
      · have hm : (g.length : Int) ≤ (m : Int) := by simp at hc; omega
        clear hc
        repeat (first | refine then_nrm ?_ | refine blk_nrm ?_ | refine aw_skip ?_)
        refine Z3i ?_
        repeat (refine then_nrm ?_)
        exact ⟨k + 1, by omega, by omega, (by repeat (first | exact Sub.nil | refine Sub.cons (by rfl) ?_)), .inl (by rw [inRows_same hx hm])⟩
    have : k = free.length := by simp at hc; omega
    subst this
    clear hc
    rw [List.take_length]
    repeat (first | refine then_nrm ?_ | refine then_brk ?_ | refine blk_hit ?_ | refine aw_seq ?_ | refine aw_exit ?_)
    refine Z5t ?_
    repeat (first | refine then_nrm ?_ | refine aw_block ?_)
    refine aw_loop (G := Nat) (fun i => i ≤ g.length) (fun i => [(7, .pt (Lid H.length 3) 0 0 0), (39, .pl (g.map eThing)), (40, .int .i64 (g.length : Int)), (41, .int .i64 (i : Int))]) (fun i => H ++ ([⟨0, 7, [eSpec s]⟩, ⟨0, 1, fcells H.length (kidP g i) g.length 0⟩, ⟨0, 1, inRows g free⟩, ⟨0, 10, [eSk g H.length 2 1 s]⟩] ++ frows (kidP g i) g.length 0)) (fun i => g.length - i) 0 (Nat.zero_le _) (by repeat (first | exact Sub.nil | refine Sub.cons (by first | rfl | (simp [get]; done)) ?_)) (.inl (by rw [gk_kids, rep_kids]; rfl)) ?_
    intro i hi
    repeat (refine aw_seq ?_)
    refine Z36 ?_
    refine Z75 ?_
    repeat (first | refine then_nrm ?_ | refine aw_seq ?_)
    refine aw_cond rfl (fun hc => ?_) (fun hc => ?_)
    · have hlt : i < g.length := by simpa using hc
      obtain ⟨t, ht, htl⟩ := get_in hlt
      have hr := map_get eThing ht
      clear hc
      generalize hM : H ++ ([⟨0, 7, [eSpec s]⟩, ⟨0, 1, fcells H.length (kidP g i) g.length 0⟩, ⟨0, 1, inRows g free⟩, ⟨0, 10, [eSk g H.length 2 1 s]⟩] ++ frows (kidP g i) g.length 0) = M
      refine Zhj ?_
      have hS : M[Lid H.length 3]? = some ⟨0, 10, [eSk g H.length 2 1 s]⟩ := by rw [← hM]; exact lk rfl rfl
      have hK : M[Lid H.length 1]? = some ⟨0, 1, fcells H.length (kidP g i) g.length 0⟩ := by rw [← hM]; exact lk rfl rfl
      have hF := hS
      repeat (first | refine then_nrm ?_ | refine aw_seq ?_ | refine aw_block ?_ | refine aw_skip ?_)
      refine Z7o ?_
      refine Z7p ?_
      refine Z1 ?_
      refine Z7q ?_
      refine Z7s ?_
      repeat (first | refine then_nrm ?_ | refine aw_seq ?_)
      refine Z3p ?_
      refine Z1s ?_
      refine Z32 ?_
      repeat (refine then_nrm ?_)
      refine aw_cond rfl (fun hc => ?_) (fun hc => ?_)
      · have h2 : 2 < t.kind := by simpa using hc
        obtain ⟨u, hu, hui⟩ := gright_kid hg ht h2
        clear hc
        obtain ⟨kd, up, tag⟩ := t
        simp only at hu h2
        subst hu
        have hug : u < g.length := by omega
        have hR : M[Lid H.length (u + 4)]? = some ⟨(kidP g i u).length, 1, (kidP g i u).map eN1⟩ := by rw [← hM]; exact lk rfl (show (frows (kidP g i) g.length 0)[u]? = _ from frows_get _ hug)
        have hcell := fcells_get (n := H.length) (kidP g i) hug
        have hle := kidP_le g i u
        have hF3 : (M.set (Lid H.length (u + 4)) ⟨(kidP g i u).length + 1, 1, ((kidP g i u).map eN1).take (kidP g i u).length ++ [[.int .i64 (i : Int)]]⟩)[Lid H.length 3]? = some ⟨0, 10, [eSk g H.length 2 1 s]⟩ := by rw [List.getElem?_set_ne (by unfold Lid; omega)]; exact hS
        have hK3 : (M.set (Lid H.length (u + 4)) ⟨(kidP g i u).length + 1, 1, ((kidP g i u).map eN1).take (kidP g i u).length ++ [[.int .i64 (i : Int)]]⟩)[Lid H.length 1]? = some ⟨0, 1, fcells H.length (kidP g i) g.length 0⟩ := by rw [List.getElem?_set_ne (by unfold Lid; omega)]; exact hK
        refine Zhk ?_
        refine Z6h ?_
        refine Zev ?_
        refine Zhl ?_
        refine Zhm ?_
        refine aqn2 3 rfl (by decide +kernel) (by decide) (fun M G hn hp hp2 => w_load1 (v := .sl (H.length + 1) 0 0 g.length g.length) rfl (lkF hp) rfl rfl rfl) ?_
        refine Zhn ?_
        refine Zho ?_
        refine Zhp ?_
        refine Zhq ?_
        refine Zhr ?_
        refine aqn2 9 rfl (by decide +kernel) (by decide) (fun M G hn hp hp2 => w_load1 (v := .sl (H.length + 1) 0 0 g.length g.length) rfl (lkF hp) rfl rfl rfl) ?_
        refine Zhs ?_
        refine Zht ?_
        refine Zhu ?_
        refine Zhv ?_
        refine Zhw ?_
        refine Zhx ?_
        refine Zhy ?_
        refine Zhz ?_
        refine Zi0 ?_
        refine Z5z ?_
        refine Zi1 ?_
        repeat (first | refine then_nrm ?_ | refine blk_nrm ?_)
        refine Z3i ?_
        repeat (refine then_nrm ?_)
        refine ⟨i + 1, by omega, by omega, (by repeat (first | exact Sub.nil | refine Sub.cons (by rfl) ?_)), fit_heap (M' := H ++ (([⟨0, 7, [eSpec s]⟩, ⟨0, 1, fcells H.length (kidP g (i + 1)) g.length 0⟩, ⟨0, 1, inRows g free⟩, ⟨0, 10, [eSk g H.length 2 1 s]⟩] ++ frows (kidP g (i + 1)) g.length 0) ++ [⟨0, 3, [eThing ⟨kd, (u : Int), tag⟩]⟩])) ?_ (Fit.loc hB rfl (by repeat (first | exact EBel.nil | refine EBel.cons (by first | rfl | (simp [AV.bel, AV.bels, Lid]; done)) ?_)) (sk_bel (by (simp [frows]; done)) (by intro r hr; simp only [List.mem_singleton] at hr; subst hr; rfl) (fcells_bel _ _ _) (inRows_bel _ g free) (by intro r hr; simp only [List.mem_singleton] at hr; subst hr; (simp [AV.bels, AV.bel, frows]; done))))⟩
        rw [← hM, st_add, st_add, Nat.zero_add, kids_cells ht h2 rfl, ← List.append_assoc, ← kids_rows ht h2 rfl]
        rfl
      · have h2 : ¬ 2 < t.kind := by simpa using hc
        have hsame := kids_same (n := H.length) ht h2
        clear hc
        repeat (first | refine then_nrm ?_ | refine blk_nrm ?_ | refine aw_skip ?_)
        refine Z3i ?_
        repeat (refine then_nrm ?_)
        refine ⟨i + 1, by omega, by omega, (by repeat (first | exact Sub.nil | refine Sub.cons (by rfl) ?_)), fit_heap (M' := H ++ (([⟨0, 7, [eSpec s]⟩, ⟨0, 1, fcells H.length (kidP g (i + 1)) g.length 0⟩, ⟨0, 1, inRows g free⟩, ⟨0, 10, [eSk g H.length 2 1 s]⟩] ++ frows (kidP g (i + 1)) g.length 0) ++ [⟨0, 3, [eThing t]⟩])) ?_ (Fit.loc hB rfl (by repeat (first | exact EBel.nil | refine EBel.cons (by first | rfl | (simp [AV.bel, AV.bels, Lid]; done)) ?_)) (sk_bel (by (simp [frows]; done)) (by intro r hr; simp only [List.mem_singleton] at hr; subst hr; rfl) (fcells_bel _ _ _) (inRows_bel _ g free) (by intro r hr; simp only [List.mem_singleton] at hr; subst hr; (simp [AV.bels, AV.bel, frows]; done))))⟩
        rw [← hM, hsame.1, hsame.2, List.append_assoc]
    have : i = g.length := by simp at hc; omega
    subst this
    clear hc
    repeat (first | refine then_nrm ?_ | refine then_brk ?_ | refine blk_hit ?_ | refine aw_seq ?_ | refine aw_exit ?_)
    refine Zgj ?_
    refine Zff ?_
    repeat (refine then_nrm ?_)
    refine aw_freezeAll (L := [⟨0, 7, [eSpec s]⟩, ⟨0, 1, fcells H.length (kidP g g.length) g.length 0⟩, ⟨0, 1, inRows g free⟩, ⟨0, 10, [eSk g H.length 2 1 s]⟩]) (M := g.length) (pk := 1) (f := kidP g g.length) rfl (by decide) ?_ rfl
    refine aw_freezeC (ys := inRows g free) (i := 0) (j := 1) (k := 3) (kid := 2) 3 rfl rfl rfl rfl rfl (by decide) rfl rfl (by rw [List.drop_zero]; exact List.take_of_length_le (by simp [inRows])) (inRows_len g free) (inRows_bel 0 g free) ?_
    refine aw_freezeC (ys := kidR g) (i := 0) (j := 2) (k := 3) (kid := 1) 3 rfl rfl rfl rfl rfl (by decide) rfl rfl (by rw [List.drop_zero, fcells_all]; exact List.take_of_length_le (by simp [kidR])) (kidR_len g) (kidR_bel 0 g) ?_
    refine aw_ret ?_
    exact e_keep (K := [⟨0, 7, [eSpec s]⟩, ⟨1, 1, []⟩, ⟨1, 1, []⟩, ⟨0, 10, [eSeek g free s]⟩]) (G := frows (kidP g g.length) g.length g.length) hB (r_tmp rfl .nil) rfl rfl (by simp [AV.bel, Lid]) (by intro o ho r hr; simp only [List.mem_cons, List.not_mem_nil, or_false] at ho; rcases ho with rfl | rfl | rfl | rfl <;> simp only [List.mem_singleton, List.not_mem_nil] at hr <;> subst hr <;> rfl)
end Go.Av

namespace Go.Av
set_option linter.unusedVariables false
set_option linter.unusedSimpArgs false
structure IR (w : Inst) : Prop where
  jobs : jobsR w.jobs = true
  table : heldR w.table = true
  came : ∀ j ∈ w.jobs, j.came ≤ w.now ∧ j.frm ≤ w.now
  run : ∀ j ∈ w.jobs, j.state = 2 → ∃ h ∈ w.table, h.id = j.id ∧ h.frm = j.frm ∧ h.to = sEnds j.spec j.frm ∧ ithings w.graph h.things = true
  held : ∀ h ∈ w.table, ∃ j ∈ w.jobs, j.id = h.id ∧ j.state = 2
  now : tm w.now = true
theorem IR.pj {w : Inst} (h : IR w) : w.jobs.Pairwise (fun a b => a.id < b.id) := jobsR_sorted h.jobs
theorem IR.pt {w : Inst} (h : IR w) : w.table.Pairwise (fun a b => a.id < b.id) := (held_iff.1 h.table).2.2.1
theorem job_inj {w : Inst} (h : IR w) {a b : Job} (ha : a ∈ w.jobs) (hb : b ∈ w.jobs) (e : a.id = b.id) : a = b := key_inj (f := Job.id) h.pj ha hb e
theorem held_inj {w : Inst} (h : IR w) {a b : Held} (ha : a ∈ w.table) (hb : b ∈ w.table) (e : a.id = b.id) : a = b := key_inj (f := Held.id) h.pt ha hb e
theorem IR.of {w : Inst} (h : IR w) {x : Held} (hx : x ∈ w.table) : ∃ j ∈ w.jobs, j.id = x.id ∧ j.state = 2 ∧ x.frm = j.frm ∧ x.to = sEnds j.spec j.frm ∧ ithings w.graph x.things = true := by
  obtain ⟨j, hj, e, s⟩ := h.held x hx
  obtain ⟨y, hy, e2, r⟩ := h.run j hj s
  have : y = x := held_inj h hy hx (by rw [e2, e])
  subst this
  exact ⟨j, hj, e, s, r⟩
theorem nd_len {α : Type} [DecidableEq α] : ∀ (R T : List α), R.Nodup → (∀ x ∈ R, x ∈ T) → R.length ≤ T.length
  | [], T, _, _ => Nat.zero_le _
  | x :: R, T, hnd, hs => by
    have hx := hs x List.mem_cons_self
    rw [List.nodup_cons] at hnd
    have := nd_len R (T.erase x) hnd.2 fun z hz => by
      have hzx : z ≠ x := fun h => hnd.1 (h ▸ hz)
      exact (List.mem_erase_of_ne hzx).2 (hs z (List.mem_cons_of_mem _ hz))
    have h2 := List.length_erase_of_mem hx
    have : 0 < T.length := List.length_pos_of_mem hx
    simp only [List.length_cons]
    omega
def istatic (i : Inst) : Bool := hright i.graph i.health && ithings i.graph i.lease && tm i.til && tm i.now && ipolicy i.policy i.depth
theorem iright_iff {i : Inst} : iright i = true ↔ istatic i = true ∧ IR i ∧ ∀ h ∈ i.table, i.now < h.to := by
  constructor
  · intro h
    have hj := iright_jobs h
    have ht := iright_table h
    have hn := table_now h
    have hp := (held_iff.1 ht).2.2.1
    refine ⟨by simp only [iright, Bool.and_eq_true] at h; simp only [istatic, Bool.and_eq_true]; exact h.1.1.1, ⟨hj, ht, ?_, ?_, fun x hx => ?_, ?_⟩, fun x hx => ?_⟩
    · intro j hjm
      have htold : itold i = true := by simp only [iright, Bool.and_eq_true] at h; exact h.2
      rw [itold, Bool.and_eq_true] at htold
      obtain ⟨k, hk⟩ := List.mem_iff_getElem?.1 hjm
      have hb := allI_get htold.1 (List.getElem?_eq_some_iff.1 hk).1
      rw [itoldB_get hk] at hb
      simp only [Bool.and_eq_true, decide_eq_true_eq] at hb
      exact hb.1
    · intro j hjm hs
      have htold : itold i = true := by simp only [iright, Bool.and_eq_true] at h; exact h.2
      rw [itold, Bool.and_eq_true] at htold
      obtain ⟨k, hk⟩ := List.mem_iff_getElem?.1 hjm
      have hb := allI_get htold.1 (List.getElem?_eq_some_iff.1 hk).1
      rw [itoldB_get hk] at hb
      simp only [Bool.and_eq_true, Bool.or_eq_true, decide_eq_true_eq, hs, ne_eq, not_true_eq_false, false_or] at hb
      obtain ⟨⟨h1, h2⟩, ⟨⟨⟨⟨h3, h4⟩, h5⟩, h6⟩, h7⟩⟩ := hb
      obtain ⟨x, hx, hid⟩ := (heldGet_iff ht).1 h3
      have he := heldGet_eq ht hx
      rw [hid] at he
      rw [he] at h4 h5 h7
      exact ⟨x, hx, hid, h4, h5, h7⟩
    · obtain ⟨j, hjm, hs, he, _⟩ := hn x hx
      exact ⟨j, hjm, he, hs⟩
    · simp only [iright, Bool.and_eq_true] at h; exact h.1.1.1.1.2
    · obtain ⟨j, hjm, hs, he, _, _, r, _⟩ := hn x hx
      exact r
  · rintro ⟨hs, h, hlt⟩
    have hst := hs
    simp only [istatic, Bool.and_eq_true] at hst
    have htold : itold i = true := by
      rw [itold, Bool.and_eq_true, decide_eq_true_eq]
      refine ⟨allI_true fun k hk => ?_, ?_⟩
      · have hj : i.jobs[k]? = some i.jobs[k] := List.getElem?_eq_getElem hk
        have hm : i.jobs[k] ∈ i.jobs := List.getElem_mem hk
        rw [itoldB_get hj]
        have hc := h.came _ hm
        rw [decide_eq_true hc.1, decide_eq_true hc.2, Bool.true_and, Bool.true_and]
        by_cases e : i.jobs[k].state = 2
        · obtain ⟨x, hx, h1, h2, h3, h4⟩ := h.run _ hm e
          have he := heldGet_eq h.table hx
          rw [h1] at he
          rw [he]
          simp only [Bool.or_eq_true, Bool.and_eq_true, decide_eq_true_eq, true_and]
          exact .inr ⟨⟨⟨h2, h3⟩, hlt x hx⟩, h4⟩
        · rw [decide_eq_true e, Bool.true_or]
      · have ndj : ((i.jobs.filter fun j => decide (j.state = 2)).map (·.id)).Nodup := (keys_sorted (f := Job.id) (h.pj.sublist (List.filter_sublist))).imp fun h => by omega
        have ndt : (i.table.map (·.id)).Nodup := (keys_sorted (f := Held.id) h.pt).imp fun h => by omega
        have l1 := nd_len _ (i.table.map (·.id)) ndj (fun n hn => by
          obtain ⟨j, hjm, rfl⟩ := List.mem_map.1 hn
          rw [List.mem_filter, decide_eq_true_eq] at hjm
          obtain ⟨y, hy, hyid, r⟩ := h.run j hjm.1 hjm.2
          exact List.mem_map.2 ⟨y, hy, hyid⟩)
        have l2 := nd_len _ ((i.jobs.filter fun j => decide (j.state = 2)).map (·.id)) ndt (fun n hn => by
          obtain ⟨x, hx, rfl⟩ := List.mem_map.1 hn
          obtain ⟨j, hjm, he, hs2⟩ := h.held x hx
          exact List.mem_map.2 ⟨j, List.mem_filter.2 ⟨hjm, by rw [decide_eq_true_eq]; exact hs2⟩, he⟩)
        rw [List.length_map, List.length_map] at l1 l2
        omega
    simp only [iright, Bool.and_eq_true]
    exact ⟨⟨⟨hst, h.jobs⟩, h.table⟩, htold⟩
theorem jnext_two {s w : Int} (h : jnext s w = some 2) : w = 3 ∧ s = 0 := by
  unfold jnext at h
  repeat' split at h
  all_goals first | omega | (injection h with h; omega) | cases h
theorem jnext_wait {s w t : Int} (h : jnext s w = some t) (ht : t < 2) : s < 2 ∧ w < 3 := by
  unfold jnext at h
  repeat' split at h
  all_goals first | omega | (injection h with h; omega) | cases h
theorem jdo_cases (j : Job) (w now : Int) : ((jdo j w now).2 ≠ 0 ∧ (jdo j w now).1 = j) ∨ ∃ s, jbad j w now = false ∧ jnext j.state w = some s ∧ jdo j w now = (jstep j s now, 0) := by
  unfold jdo
  cases hb : jbad j w now with
  | true => exact .inl ⟨by simp, by simp⟩
  | false =>
    cases hn : jnext j.state w with
    | none => exact .inl ⟨by simp, by simp⟩
    | some s => exact .inr ⟨s, rfl, rfl, by simp⟩
theorem job_there (w : Inst) (id : Int) : (∃ j ∈ w.jobs, j.id = id) ∨ ∀ j ∈ w.jobs, j.id ≠ id := by
  by_cases h : ∃ j ∈ w.jobs, j.id = id
  · exact .inl h
  · exact .inr fun j hj e => h ⟨j, hj, e⟩
theorem wdo_cases {w : Inst} (hr : jobsR w.jobs = true) (id what at_ : Int) :
    ((wdo w id what at_).1 = w ∧ (wdo w id what at_).2 ≠ 0) ∨ ∃ j ∈ w.jobs, j.id = id ∧ ∃ s, jbad j what at_ = false ∧ jnext j.state what = some s ∧ jobsDo w.jobs id what at_ = (w.jobs.set (jobPos w.jobs id) (jstep j s at_), 0) ∧
      wdo w id what at_ = ({ w with jobs := w.jobs.set (jobPos w.jobs id) (jstep j s at_), table := if jover s then (heldDrop w.table id).1 else w.table }, 0) := by
  rcases job_there w id with ⟨j, hj, rfl⟩ | hn
  · obtain ⟨h1, h2, h3, h4⟩ := jobsDo_hit hr hj what at_
    rcases jdo_cases j what at_ with ⟨e, e1⟩ | ⟨s, hb, hs, e⟩
    · left
      unfold wdo
      rw [h1, if_pos e]
      exact ⟨rfl, e⟩
    · right
      refine ⟨j, hj, rfl, s, hb, hs, by rw [h1, e], ?_⟩
      have hm : jstep j s at_ ∈ (jobsDo w.jobs j.id what at_).1 := (h3 _).2 (.inl (by rw [e]))
      have hg := jobsGet_eq h2 hm
      rw [show (jstep j s at_).id = j.id from rfl] at hg
      unfold wdo
      rw [hg]
      rw [h1, e]
      simp only [ne_eq, not_true_eq_false, if_false]
      rw [show (jstep j s at_).state = s from rfl]
      split <;> rfl
  · left
    have := jobsDo_no (w := what) (now := at_) hr hn
    unfold wdo
    rw [if_pos this]
    exact ⟨rfl, this⟩
theorem set_jobs {w : Inst} (hr : jobsR w.jobs = true) {j : Job} (hj : j ∈ w.jobs) {what at_ s : Int} (e : jobsDo w.jobs j.id what at_ = (w.jobs.set (jobPos w.jobs j.id) (jstep j s at_), 0)) (hb : jbad j what at_ = false) (hs : jnext j.state what = some s) :
    jobsR (w.jobs.set (jobPos w.jobs j.id) (jstep j s at_)) = true ∧ ∀ y, y ∈ w.jobs.set (jobPos w.jobs j.id) (jstep j s at_) ↔ y = jstep j s at_ ∨ (y ∈ w.jobs ∧ y.id ≠ j.id) := by
  obtain ⟨h1, h2, h3, h4⟩ := jobsDo_hit hr hj what at_
  rw [e] at h2 h3
  have : (jdo j what at_).1 = jstep j s at_ := by unfold jdo; rw [hb, hs]; simp
  rw [this] at h3
  exact ⟨h2, h3⟩
theorem drop_mem {l : List Held} (hr : heldR l = true) (id : Int) : heldR (heldDrop l id).1 = true ∧ ∀ y, y ∈ (heldDrop l id).1 ↔ y ∈ l ∧ y.id ≠ id := by
  by_cases h : ∃ x ∈ l, x.id = id
  · obtain ⟨x, hx, rfl⟩ := h
    have := heldDrop_hit hr hx
    exact ⟨this.1, this.2.1⟩
  · have hn : ∀ x ∈ l, x.id ≠ id := fun x hx e => h ⟨x, hx, e⟩
    rw [heldDrop_no hr hn]
    exact ⟨hr, fun y => ⟨fun hy => ⟨hy, hn y hy⟩, fun hy => hy.1⟩⟩
theorem wdo_ir {w : Inst} (h : IR w) {id what at_ : Int} (h3 : what ≠ 3) : IR (wdo w id what at_).1 := by
  rcases wdo_cases h.jobs id what at_ with ⟨e, _⟩ | ⟨j, hj, rfl, s, hb, hs, e1, e⟩
  · rw [e]; exact h
  · rw [e]
    obtain ⟨hr, hm⟩ := set_jobs h.jobs hj e1 hb hs
    have hs2 : s ≠ 2 := by rintro rfl; exact h3 (jnext_two hs).1
    obtain ⟨dr, dm⟩ := drop_mem h.table j.id
    have hin := jnext_in (jright_state ((jobs_iff.1 h.jobs).2.1 j hj)).1 hs
    refine ⟨hr, ?_, ?_, ?_, ?_, h.now⟩
    · show heldR (if jover s then (heldDrop w.table j.id).1 else w.table) = true
      split
      · exact dr
      · exact h.table
    · intro y hy
      rcases (hm y).1 hy with rfl | ⟨hy, _⟩
      · show j.came ≤ w.now ∧ (if s = 2 then at_ else j.frm) ≤ w.now
        rw [if_neg hs2]; exact h.came j hj
      · exact h.came y hy
    · intro y hy hst
      rcases (hm y).1 hy with rfl | ⟨hy, hne⟩
      · exact absurd hst hs2
      · obtain ⟨x, hx, e1, r⟩ := h.run y hy hst
        refine ⟨x, ?_, e1, r⟩
        show x ∈ (if jover s then (heldDrop w.table j.id).1 else w.table)
        split
        · exact (dm x).2 ⟨hx, by rw [e1]; exact hne⟩
        · exact hx
    · intro x hx
      have hx' : x ∈ w.table ∧ (x.id ≠ j.id ∨ jover s = false) := by
        have : x ∈ (if jover s then (heldDrop w.table j.id).1 else w.table) := hx
        split at this
        · exact ⟨((dm x).1 this).1, .inl ((dm x).1 this).2⟩
        · exact ⟨this, .inr (by simp_all)⟩
      obtain ⟨hx, hor⟩ := hx'
      obtain ⟨y, hy, e5, e2⟩ := h.held x hx
      refine ⟨y, (hm y).2 (.inr ⟨hy, fun e3 => ?_⟩), e5, e2⟩
      have := job_inj h hy hj e3
      subst this
      rcases hor with ho | ho
      · exact ho e5.symm
      · have : s < 2 := by simp only [jover, Bool.and_eq_false_iff, decide_eq_false_iff_not] at ho; omega
        have := (jnext_wait hs this).1
        omega
end Go.Av

namespace Go.Av
set_option linter.unusedVariables false
set_option linter.unusedSimpArgs false
structure JE (a b : Job) : Prop where
  id : b.id = a.id
  spec : b.spec = a.spec
  needs : b.needs = a.needs
  came : b.came = a.came
  over : jover a.state = true → b = a
theorem JE.refl (a : Job) : JE a a := ⟨rfl, rfl, rfl, rfl, fun _ => rfl⟩
theorem JE.trans {a b c : Job} (h : JE a b) (k : JE b c) : JE a c := ⟨k.id.trans h.id, k.spec.trans h.spec, k.needs.trans h.needs, k.came.trans h.came, fun o => by
  have := h.over o
  subst this
  exact k.over o⟩
structure Ev (w v : Inst) : Prop where
  graph : v.graph = w.graph
  health : v.health = w.health
  lease : v.lease = w.lease
  til : v.til = w.til
  now : v.now = w.now
  policy : v.policy = w.policy
  depth : v.depth = w.depth
  len : v.jobs.length = w.jobs.length
  jobs : ∀ (k : Nat) (a b : Job), w.jobs[k]? = some a → v.jobs[k]? = some b → JE a b
theorem Ev.refl (w : Inst) : Ev w w := ⟨rfl, rfl, rfl, rfl, rfl, rfl, rfl, rfl, fun k a b ha hb => by rw [ha] at hb; cases hb; exact JE.refl a⟩
theorem Ev.trans {w v u : Inst} (h : Ev w v) (k : Ev v u) : Ev w u := ⟨k.graph.trans h.graph, k.health.trans h.health, k.lease.trans h.lease, k.til.trans h.til, k.now.trans h.now, k.policy.trans h.policy, k.depth.trans h.depth, k.len.trans h.len, fun i a c ha hc => by
  have hi := (List.getElem?_eq_some_iff.1 ha).1
  have hv : i < v.jobs.length := by rw [h.len]; exact hi
  exact (h.jobs i a _ ha (List.getElem?_eq_getElem hv)).trans (k.jobs i _ c (List.getElem?_eq_getElem hv) hc)⟩
theorem Ev.tab {w v : Inst} (h : Ev w v) (t : List Held) : Ev w { v with table := t } := ⟨h.graph, h.health, h.lease, h.til, h.now, h.policy, h.depth, h.len, h.jobs⟩
theorem jnext_over {s w t : Int} (h : jnext s w = some t) : jover s = false := by
  have := (jnext_from h).1
  rw [jover, decide_eq_false (by omega), Bool.false_and]
theorem wdo_ev {w : Inst} (hr : jobsR w.jobs = true) (id what at_ : Int) : Ev w (wdo w id what at_).1 := by
  rcases wdo_cases hr id what at_ with ⟨e, _⟩ | ⟨j, hj, rfl, s, hb, hs, e1, e⟩
  · rw [e]; exact Ev.refl w
  · rw [e]
    refine ⟨rfl, rfl, rfl, rfl, rfl, rfl, rfl, by simp, fun k a b ha hb => ?_⟩
    have hp := jobPos_at (jobsR_sorted hr) hj
    by_cases hk : jobPos w.jobs j.id = k
    · subst hk
      rw [hp] at ha
      cases ha
      have : b = jstep j s at_ := by
        simp only at hb
        rw [List.getElem?_set_self (List.getElem?_eq_some_iff.1 hp).1] at hb
        cases hb; rfl
      subst this
      exact ⟨rfl, rfl, rfl, rfl, fun o => by rw [jnext_over hs] at o; cases o⟩
    · simp only at hb
      rw [List.getElem?_set_ne hk, ha] at hb
      cases hb
      exact JE.refl a
theorem fold_inv {α : Type} {P : Inst → Prop} {f : Inst → α → Inst} : ∀ (l : List α) (w : Inst), P w → (∀ v x, x ∈ l → P v → P (f v x)) → P (l.foldl f w)
  | [], w, h, _ => h
  | x :: l, w, h, hs => fold_inv l (f w x) (hs w x List.mem_cons_self h) fun v y hy hv => hs v y (List.mem_cons_of_mem _ hy) hv
structure IE (w v : Inst) : Prop where
  ir : IR v
  ev : Ev w v
theorem IE.wdo {w v : Inst} (h : IE w v) {id what at_ : Int} (h3 : what ≠ 3) : IE w (wdo v id what at_).1 := ⟨wdo_ir h.ir h3, h.ev.trans (wdo_ev h.ir.jobs _ _ _)⟩
theorem wdo_table {w : Inst} (h : IR w) (id what at_ : Int) : ∀ x ∈ (wdo w id what at_).1.table, x ∈ w.table := by
  rcases wdo_cases h.jobs id what at_ with ⟨e, _⟩ | ⟨j, hj, rfl, s, hb, hs, e1, e⟩
  · rw [e]; exact fun x hx => hx
  · rw [e]
    intro x hx
    have : x ∈ (if jover s then (heldDrop w.table j.id).1 else w.table) := hx
    split at this
    · exact (((drop_mem h.table j.id).2 x).1 this).1
    · exact this
theorem jbad_ok {w : Inst} (h : IR w) {j : Job} (hj : j ∈ w.jobs) {what : Int} (h1 : 1 ≤ what) (h7 : what ≤ 7) : jbad j what w.now = false := by
  have hc := h.came j hj
  simp only [jbad, (jobs_iff.1 h.jobs).2.1 j hj, h.now, Bool.not_true, Bool.false_or, Bool.or_eq_false_iff, decide_eq_false_iff_not]
  refine ⟨⟨⟨?_, ?_⟩, ?_⟩, ?_⟩ <;> first | trivial | omega
theorem wdo_kill {w : Inst} (h : IR w) {x : Held} (hx : x ∈ w.table) {at_ : Int} (hb : ∀ j ∈ w.jobs, j.id = x.id → jbad j 5 at_ = false) : ∀ y ∈ (wdo w x.id 5 at_).1.table, y ∈ w.table ∧ y.id ≠ x.id := by
  obtain ⟨j, hj, e, s, _⟩ := h.of hx
  have hdo : (jdo j 5 at_) = (jstep j 4 at_, 0) := by
    unfold jdo
    rw [hb j hj e, s]
    rfl
  rcases wdo_cases h.jobs x.id 5 at_ with ⟨e1, e2⟩ | ⟨j', hj', e', s', hb', hs', e1, e2⟩
  · exfalso
    apply e2
    have hd := (jobsDo_hit h.jobs hj 5 at_).1
    unfold wdo
    rw [← e, hd, hdo]
    simp only [ne_eq, not_true_eq_false, if_false]
    split <;> rfl
  · have := job_inj h hj' hj (by rw [e', e])
    subst this
    rw [s] at hs'
    have : s' = 4 := by
      have : jnext 2 5 = some 4 := by decide
      rw [this] at hs'
      cases hs'; rfl
    subst this
    rw [e2]
    intro y hy
    exact ((drop_mem h.table x.id).2 y).1 hy
theorem wbroken_good {w : Inst} (h : IR w) : ∀ x ∈ (wbroken w).table, spart x.things (smeet w.lease (hbelow w.graph w.health 1)) = true := by
  unfold wbroken
  suffices key : ∀ (l : List Held) (v : Inst), IE w v → (∀ x ∈ v.table, x ∈ w.table) → (∀ x ∈ v.table, x ∈ l ∨ spart x.things (smeet w.lease (hbelow w.graph w.health 1)) = true) → (∀ x ∈ l, x ∈ w.table) →
      ∀ x ∈ (l.foldl (fun a h => if spart h.things (smeet w.lease (hbelow w.graph w.health 1)) then a else (wdo a h.id 5 a.now).1) v).table, spart x.things (smeet w.lease (hbelow w.graph w.health 1)) = true by
    exact key w.table w ⟨h, Ev.refl w⟩ (fun x hx => hx) (fun x hx => .inl hx) fun x hx => hx
  intro l
  induction l with
  | nil =>
    intro v hv h1 h2 h3 x hx
    rcases h2 x hx with h | h
    · cases h
    · exact h
  | cons y l ih =>
    intro v hv h1 h2 h3
    rw [List.foldl_cons]
    cases hg : spart y.things (smeet w.lease (hbelow w.graph w.health 1)) with
    | true =>
      rw [if_pos rfl]
      refine ih v hv h1 (fun x hx => ?_) fun x hx => h3 x (List.mem_cons_of_mem _ hx)
      rcases h2 x hx with h4 | h4
      · rcases List.mem_cons.1 h4 with rfl | h5
        · exact .inr hg
        · exact .inl h5
      · exact .inr h4
    | false =>
      rw [if_neg (by decide)]
      have hsub := wdo_table hv.ir y.id 5 v.now
      refine ih _ (hv.wdo (by decide)) (fun x hx => h1 x (hsub x hx)) (fun x hx => ?_) fun x hx => h3 x (List.mem_cons_of_mem _ hx)
      rcases h2 x (hsub x hx) with h4 | h4
      · rcases List.mem_cons.1 h4 with rfl | h5
        · exfalso
          exact (wdo_kill hv.ir (hsub x hx) (fun j hj _ => jbad_ok hv.ir hj (by decide) (by decide)) x hx).2 rfl
        · exact .inl h5
      · exact .inr h4
structure Beg (w : Inst) (h : Held) : Prop where
  may : hmay h = true
  things : ithings w.graph h.things = true
  frm : h.frm = w.now
  job : ∃ j ∈ w.jobs, j.id = h.id ∧ j.state = 0 ∧ h.to = sEnds j.spec w.now
  new : ∀ x ∈ w.table, x.id ≠ h.id
  room : w.table.length < 256
  apart : ∀ x ∈ w.table, clash x h = false
def wbeg (a : Inst) (h : Held) : Inst := { (wdo a h.id 3 a.now).1 with table := (heldAdd (wdo a h.id 3 a.now).1.table h).1 }
theorem wbeg_step {w : Inst} (h : IR w) {x : Held} (hb : Beg w x) : ∃ j ∈ w.jobs, j.id = x.id ∧ j.state = 0 ∧ x.to = sEnds j.spec w.now ∧ (wbeg w x).table = kput Held.id w.table x ∧ heldR (wbeg w x).table = true ∧ jobsR (wbeg w x).jobs = true ∧ Ev w (wbeg w x) ∧ ∀ y, y ∈ (wbeg w x).jobs ↔ y = jstep j 2 w.now ∨ (y ∈ w.jobs ∧ y.id ≠ x.id) := by
  obtain ⟨j, hj, e, s, hto⟩ := hb.job
  have hdo : jdo j 3 w.now = (jstep j 2 w.now, 0) := by
    unfold jdo
    rw [jbad_ok h hj (by decide) (by decide), s]
    rfl
  rcases wdo_cases h.jobs x.id 3 w.now with ⟨e1, e2⟩ | ⟨j', hj', e', s', hb', hs', e1, e2⟩
  · exfalso
    apply e2
    have hd := (jobsDo_hit h.jobs hj 3 w.now).1
    unfold wdo
    rw [← e, hd, hdo]
    simp only [ne_eq, not_true_eq_false, if_false]
    split <;> rfl
  · have := job_inj h hj' hj (by rw [e', e])
    subst this
    rw [s] at hs'
    have : s' = 2 := by
      have : jnext 0 3 = some 2 := by decide
      rw [this] at hs'
      cases hs'; rfl
    subst this
    have hev := wdo_ev h.jobs x.id 3 w.now
    rw [← e'] at e1
    obtain ⟨hr, hm⟩ := set_jobs h.jobs hj' e1 hb' (by rw [s]; decide)
    have ht : (wdo w x.id 3 w.now).1.table = w.table := by rw [e2]; rfl
    have hjj : (wdo w x.id 3 w.now).1.jobs = w.jobs.set (jobPos w.jobs x.id) (jstep j' 2 w.now) := by rw [e2]
    have ha := heldAdd_ok h.table hb.may hb.new hb.room hb.apart
    refine ⟨j', hj', e', s, hto, ?_, ?_, ?_, hev.tab _, ?_⟩
    · show (heldAdd (wdo w x.id 3 w.now).1.table x).1 = _
      rw [ht, ha.1]
    · show heldR (heldAdd (wdo w x.id 3 w.now).1.table x).1 = _
      rw [ht, ha.1]; exact ha.2
    · show jobsR (wdo w x.id 3 w.now).1.jobs = true
      rw [hjj, ← e']; exact hr
    · intro y
      show y ∈ (wdo w x.id 3 w.now).1.jobs ↔ _
      rw [hjj, ← e']; exact hm y
theorem wbeg_ir {w : Inst} (h : IR w) {x : Held} (hb : Beg w x) : IR (wbeg w x) := by
  obtain ⟨j, hj, e, s, hto, ht, hr, hjr, hev, hm⟩ := wbeg_step h hb
  refine ⟨hjr, hr, ?_, ?_, ?_, by rw [hev.now]; exact h.now⟩
  · intro y hy
    rw [hev.now]
    rcases (hm y).1 hy with rfl | ⟨hy, _⟩
    · exact ⟨(h.came j hj).1, Int.le_refl _⟩
    · exact h.came y hy
  · intro y hy hs
    rw [hev.graph]
    rcases (hm y).1 hy with rfl | ⟨hy, hne⟩
    · exact ⟨x, by rw [ht]; exact kput_mem.2 (.inl rfl), e.symm, hb.frm, hto, hb.things⟩
    · obtain ⟨z, hz, r⟩ := h.run y hy hs
      exact ⟨z, by rw [ht]; exact kput_mem.2 (.inr hz), r⟩
  · intro z hz
    rw [ht] at hz
    rcases kput_mem.1 hz with rfl | hz
    · exact ⟨jstep j 2 w.now, (hm _).2 (.inl rfl), e, rfl⟩
    · obtain ⟨y, hy, e1, e2⟩ := h.held z hz
      refine ⟨y, (hm _).2 (.inr ⟨hy, fun e3 => ?_⟩), e1, e2⟩
      exact hb.new z hz (by rw [← e1, e3])
end Go.Av

namespace Go.Av
set_option linter.unusedVariables false
set_option linter.unusedSimpArgs false
theorem part_sub {a b : List Int} (ha : sok a = true) (hb : sok b = true) (h : ∀ x ∈ a, x ∈ b) : spart a b = true := spart_iff.2 ⟨ha, hb, fun n hn => inl_mem.2 (h _ (inl_mem.1 hn))⟩
theorem part_mem {a b : List Int} (h : spart a b = true) : ∀ x ∈ a, x ∈ b := by
  intro x hx
  obtain ⟨ha, hb, hs⟩ := spart_iff.1 h
  have h0 := sok_mem ha hx
  have := hs x.toNat (inl_mem.2 (by rw [Int.toNat_of_nonneg h0.1]; exact hx))
  have := inl_mem.1 this
  rwa [Int.toNat_of_nonneg h0.1] at this
theorem part_trans {a b c : List Int} (h : spart a b = true) (k : spart b c = true) : spart a c = true := part_sub (spart_iff.1 h).1 (spart_iff.1 k).2.1 fun x hx => part_mem k x (part_mem h x hx)
theorem part_nil {b : List Int} (hb : sok b = true) : spart [] b = true := part_sub sok_nil hb fun x hx => by cases hx
theorem part_join2 {a b c : List Int} (h : spart a c = true) (k : spart b c = true) : spart (sjoin a b) c = true := by
  obtain ⟨h1, h2, h3⟩ := spart_iff.1 h
  obtain ⟨k1, _, k3⟩ := spart_iff.1 k
  refine spart_iff.2 ⟨sok_setop _ _ _, h2, fun n hn => ?_⟩
  rw [in_join h1 k1, Bool.or_eq_true] at hn
  rcases hn with hn | hn
  · exact h3 n hn
  · exact k3 n hn
theorem part_less2 {a b : List Int} (ha : sok a = true) (hb : sok b = true) : spart (sless a b) a = true := spart_iff.2 ⟨sok_setop _ _ _, ha, fun n hn => by
  rw [in_less ha hb, Bool.and_eq_true] at hn; exact hn.1⟩
theorem part_meet1 {a b : List Int} (ha : sok a = true) (hb : sok b = true) : spart (smeet a b) a = true := spart_iff.2 ⟨sok_setop _ _ _, ha, fun n hn => by
  rw [in_meet ha hb, Bool.and_eq_true] at hn; exact hn.1⟩
theorem smeet_sok (a b : List Int) : sok (smeet a b) = true := sok_setop _ _ _
theorem sjoin_sok (a b : List Int) : sok (sjoin a b) = true := sok_setop _ _ _
theorem mkids_mem {g : List Thing} {node : Nat} {x : Int} : x ∈ mkids g node ↔ ∃ k : Nat, x = k ∧ k < g.length ∧ 2 < kindAt g k ∧ upAt g k = (node : Int) := by
  rw [mkids, idx_mem]
  simp only [Bool.and_eq_true, decide_eq_true_eq]
theorem mkids_sorted (g : List Thing) (node : Nat) : (mkids g node).Pairwise (· < ·) := idx_sorted _ _
theorem mkids_sok {g : List Thing} (hg : gright g = true) (node : Nat) : sok (mkids g node) = true := idx_sok _ (gright_len hg).2
theorem mkids_after {g : List Thing} (hg : gright g = true) {node : Nat} {x : Int} (hx : x ∈ mkids g node) : (node : Int) < x := by
  obtain ⟨k, rfl, hk, _, hu⟩ := mkids_mem.1 hx
  have := (gright_up hg (List.getElem?_eq_getElem hk)).1
  rw [upAt, List.getElem?_eq_getElem hk] at hu
  have hu : g[k].up = (node : Int) := hu
  omega
theorem sok_sub {a b : List Int} (h : a.Sublist b) (hb : sok b = true) : sok a = true := sok_of_sorted ((sok_sorted hb).sublist h) fun x hx => sok_mem hb (h.subset hx)
theorem mkind_part {g : List Thing} {free : List Int} (hg : gright g = true) (hf : sok free = true) (node : Nat) (kind most : Int) : spart (mkind g free node kind most) free = true := by
  have hs : (mkind g free node kind most).Sublist (mkids g node) := (List.take_sublist _ _).trans List.filter_sublist
  refine part_sub (sok_sub hs (mkids_sok hg node)) hf fun x hx => ?_
  have := List.mem_of_mem_take hx
  rw [List.mem_filter, Bool.and_eq_true] at this
  have h0 := sok_mem (mkids_sok hg node) this.1
  have := inl_mem.1 this.2.1
  rwa [Int.toNat_of_nonneg h0.1] at this
theorem kids_sok {g : List Thing} (hg : gright g = true) {node : Nat} (hn : node < 256) : sok ((node : Int) :: mkids g node) = true := sok_of_sorted (List.pairwise_cons.2 ⟨fun x hx => mkids_after hg hx, mkids_sorted g node⟩) fun x hx => by
  rcases List.mem_cons.1 hx with rfl | hx
  · omega
  · exact sok_mem (mkids_sok hg node) hx
theorem mhere_part {g : List Thing} {free : List Int} {s : Spec} (hg : gright g = true) (hf : sok free = true) (node : Nat) : spart (mhere g free s node).1 free = true := by
  unfold mhere
  split
  · exact part_nil hf
  rename_i h1
  split
  · exact part_nil hf
  split
  · exact part_join2 (mkind_part hg hf _ _ _) (mkind_part hg hf _ _ _)
  split
  · rename_i h4
    have hfn : inl free node = true := by
      simp only [Bool.not_eq_true', Bool.not_eq_false, Bool.and_eq_true] at h1
      exact h1.1.2
    refine part_sub (kids_sok hg (inl_256 hf hfn)) hf fun x hx => ?_
    rcases List.mem_cons.1 hx with rfl | hx
    · exact inl_mem.1 hfn
    · have h0 := sok_mem (mkids_sok hg node) hx
      have := inl_mem.1 (List.all_eq_true.1 h4 x hx)
      rwa [Int.toNat_of_nonneg h0.1] at this
  · exact part_nil hf
theorem mfindL_part {g : List Thing} {free : List Int} {s : Spec} (hg : gright g = true) (hf : sok free = true) : ∀ k, spart (mfindL g free s k).1 free = true
  | 0 => part_nil hf
  | k + 1 => by
    rw [mfindL]
    split
    · exact part_join2 (mfindL_part hg hf k) (mhere_part hg hf k)
    · exact mfindL_part hg hf k
theorem mfind_part {g : List Thing} {free : List Int} {s : Spec} (h : (mfind g free s).2 = true) : spart (mfind g free s).1 free = true := by
  unfold mfind at h ⊢
  split at h
  · cases h
  rename_i hm
  rw [if_neg hm]
  simp only [mmay, Bool.not_eq_true', Bool.not_eq_false, Bool.and_eq_true] at hm
  split at h
  · cases h
  rename_i hl
  rw [if_neg hl]
  exact mfindL_part hm.1.1 hm.1.2 _
theorem fits_part {g : List Thing} {use : List Int} {l : List Held} {s : Spec} {t til : Int} (hu : sok use = true) (h : (fitsAt g use l s t til).2 = true) : spart (fitsAt g use l s t til).1 use = true ∧ t ≠ 4611686018427387904 ∧ sEnds s t ≤ til := by
  unfold fitsAt at h ⊢
  split at h
  · cases h
  rename_i hm
  rw [if_neg hm]
  simp only [Bool.or_eq_true, decide_eq_true_eq, not_or] at hm
  exact ⟨part_trans (mfind_part h) (part_less2 hu (sok_busyL _ _ _)), hm.1.2, by omega⟩
theorem firstOfL_fits {g : List Thing} {use : List Int} {l : List Held} {s : Spec} {til : Int} : ∀ ts : List Int, (firstOfL g use l s til ts).2.2 = true → (firstOfL g use l s til ts).1 ∈ ts ∧ (fitsAt g use l s (firstOfL g use l s til ts).1 til).2 = true ∧ (firstOfL g use l s til ts).2.1 = (fitsAt g use l s (firstOfL g use l s til ts).1 til).1
  | [], h => by cases h
  | t :: ts, h => by
    unfold firstOfL at h ⊢
    split at h
    · rename_i hf
      rw [if_pos hf]
      exact ⟨List.mem_cons_self, hf, rfl⟩
    · rename_i hf
      rw [if_neg hf]
      have := firstOfL_fits ts h
      exact ⟨List.mem_cons_of_mem _ this.1, this.2⟩
theorem slot_fits {g : List Thing} {use : List Int} {l : List Held} {s : Spec} {frm til : Int} (hu : sok use = true) (h : (slotFirst g use l s frm til).2.2 = true) : spart (slotFirst g use l s frm til).2.1 use = true ∧ (slotFirst g use l s frm til).1 ≠ 4611686018427387904 ∧ sEnds s (slotFirst g use l s frm til).1 ≤ til := by
  unfold slotFirst at h ⊢
  split at h
  · cases h
  rename_i hm
  rw [if_neg hm]
  obtain ⟨h1, h2, h3⟩ := firstOfL_fits _ h
  rw [h3]
  exact fits_part hu h2
theorem heldAdd_zero {l : List Held} {h : Held} (e : (heldAdd l h).2 = 0) : heldR l = true ∧ hmay h = true ∧ (∀ x ∈ l, x.id ≠ h.id) ∧ l.length < 256 ∧ (∀ x ∈ l, clash x h = false) ∧ (heldAdd l h).1 = kput Held.id l h := by
  unfold heldAdd at e
  split at e
  · simp at e
  rename_i h1
  simp only [Bool.not_eq_true', Bool.not_eq_false, Bool.and_eq_true] at h1
  split at e
  · simp at e
  rename_i h2
  split at e
  · simp at e
  rename_i h3
  simp only [Bool.or_eq_true, decide_eq_true_eq, not_or, Bool.not_eq_true, List.any_eq_false] at h3
  have hp := held_iff.1 h1.1
  have hn : ∀ x ∈ l, x.id ≠ h.id := fun x hx e => h2 ((heldHit_iff hp.2.2.1).2 ⟨x, hx, e⟩)
  have hl : l.length < 256 := by have := hp.1; omega
  exact ⟨h1.1, h1.2, hn, hl, h3.2, by rw [(heldAdd_ok h1.1 h1.2 hn hl h3.2).1]⟩
theorem clash_of {l : List Held} (hr : heldR l = true) {a b : Held} (ha : a ∈ l) (hb : b ∈ l) (hne : a.id ≠ b.id) : clash a b = false := by
  obtain ⟨_, _, _, h4⟩ := held_iff.1 hr
  obtain ⟨i, hi⟩ := List.mem_iff_getElem?.1 ha
  obtain ⟨j, hj⟩ := List.mem_iff_getElem?.1 hb
  obtain ⟨hi1, hi2⟩ := List.getElem?_eq_some_iff.1 hi
  obtain ⟨hj1, hj2⟩ := List.getElem?_eq_some_iff.1 hj
  rcases Nat.lt_trichotomy i j with h | h | h
  · have := List.pairwise_iff_getElem.1 h4 i j hi1 hj1 h
    rwa [hi2, hj2] at this
  · subst h
    rw [hi] at hj
    cases hj
    exact absurd rfl hne
  · have := List.pairwise_iff_getElem.1 h4 j i hj1 hi1 h
    rw [hi2, hj2, clash_symm] at this
    exact this
structure PK (use : List Int) (now til : Int) (ws : List Want) (l0 : List Held) (l : List Held) (begun : List Held) : Prop where
  r : heldR l = true
  old : ∀ x ∈ l0, x ∈ l
  isin : ∀ x ∈ begun, x ∈ l
  new : ∀ x ∈ begun, ∀ y ∈ l0, y.id ≠ x.id
  dif : begun.Pairwise (fun a b => a.id ≠ b.id)
  frm : ∀ x ∈ begun, x.frm = now
  of : ∀ x ∈ begun, ∃ w ∈ ws, w.id = x.id ∧ x.to = sEnds w.spec now
  part : ∀ x ∈ begun, spart x.things use = true
  til : ∀ x ∈ begun, x.to ≤ til ∧ now ≠ 4611686018427387904
theorem PK.none {use : List Int} {now til : Int} {ws : List Want} {l0 : List Held} (h : heldR l0 = true) : PK use now til ws l0 l0 [] :=
  ⟨h, fun x hx => hx, (fun _ h => nomatch h), (fun _ h => nomatch h), List.Pairwise.nil, (fun _ h => nomatch h), (fun _ h => nomatch h), (fun _ h => nomatch h), (fun _ h => nomatch h)⟩
theorem PK.add {use : List Int} {now til : Int} {ws : List Want} {l0 l begun : List Held} (p : PK use now til ws l0 l begun) {h : Held} (e : (heldAdd l h).2 = 0) : PK use now til ws l0 (heldAdd l h).1 begun := by
  obtain ⟨h1, h2, h3, h4, h5, h6⟩ := heldAdd_zero e
  rw [h6]
  exact ⟨(heldAdd_ok h1 h2 h3 h4 h5).2, fun x hx => kput_mem.2 (.inr (p.old x hx)), fun x hx => kput_mem.2 (.inr (p.isin x hx)), p.new, p.dif, p.frm, p.of, p.part, p.til⟩
theorem PK.begin {use : List Int} {now til : Int} {ws : List Want} {l0 l begun : List Held} (p : PK use now til ws l0 l begun) {w : Want} (hw : w ∈ ws) {things : List Int} (hp : spart things use = true) (ht : sEnds w.spec now ≤ til ∧ now ≠ 4611686018427387904) (e : (heldAdd l ⟨w.id, things, now, sEnds w.spec now⟩).2 = 0) :
    PK use now til ws l0 (heldAdd l ⟨w.id, things, now, sEnds w.spec now⟩).1 (begun ++ [⟨w.id, things, now, sEnds w.spec now⟩]) := by
  obtain ⟨h1, h2, h3, h4, h5, h6⟩ := heldAdd_zero e
  have q := p.add e
  refine ⟨q.r, q.old, fun x hx => ?_, fun x hx y hy => ?_, ?_, fun x hx => ?_, fun x hx => ?_, fun x hx => ?_, fun x hx => ?_⟩
  · rcases List.mem_append.1 hx with hx | hx
    · exact q.isin x hx
    · rw [List.mem_singleton] at hx; subst hx
      rw [h6]; exact kput_mem.2 (.inl rfl)
  · rcases List.mem_append.1 hx with hx | hx
    · exact p.new x hx y hy
    · rw [List.mem_singleton] at hx; subst hx
      exact h3 y (p.old y hy)
  · rw [List.pairwise_append]
    refine ⟨p.dif, List.pairwise_singleton _ _, fun a ha b hb => ?_⟩
    rw [List.mem_singleton] at hb; subst hb
    exact h3 a (p.isin a ha)
  · rcases List.mem_append.1 hx with hx | hx
    · exact p.frm x hx
    · rw [List.mem_singleton] at hx; subst hx; rfl
  · rcases List.mem_append.1 hx with hx | hx
    · exact p.of x hx
    · rw [List.mem_singleton] at hx; subst hx
      exact ⟨w, hw, rfl, rfl⟩
  · rcases List.mem_append.1 hx with hx | hx
    · exact p.part x hx
    · rw [List.mem_singleton] at hx; subst hx; exact hp
  · rcases List.mem_append.1 hx with hx | hx
    · exact p.til x hx
    · rw [List.mem_singleton] at hx; subst hx; exact ht
theorem pickL_pk {g : List Thing} {use : List Int} {now til policy depth : Int} {ws0 : List Want} {l0 : List Held} (hu : sok use = true) : ∀ (ws : List Want) (s : PickS), (∀ w ∈ ws, w ∈ ws0) → PK use now til ws0 l0 s.l s.begun → heldR l0 = true → ∃ l, PK use now til ws0 l0 l (pickL g use now til policy depth s ws).1
  | [], s, _, p, h0 => ⟨s.l, p⟩
  | w :: ws, s, hm, p, h0 => by
    have hm' := fun v hv => hm v (List.mem_cons_of_mem _ hv)
    unfold pickL
    split
    · exact pickL_pk hu ws s hm' p h0
    rename_i hf
    have hf' : (slotFirst g use s.l w.spec now til).2.2 = true := by simpa using hf
    split
    · exact ⟨s.l, p⟩
    split
    · exact pickL_pk hu ws s hm' p h0
    split
    · exact ⟨l0, PK.none h0⟩
    rename_i he
    have he' := Classical.not_not.1 he
    obtain ⟨s1, s2, s3⟩ := slot_fits hu hf'
    split
    · rename_i hnow
      refine pickL_pk hu ws _ hm' ?_ h0
      simp only
      rw [hnow] at he' s2 s3 ⊢
      exact p.begin (hm w List.mem_cons_self) s1 ⟨s3, s2⟩ he'
    · exact pickL_pk hu ws _ hm' (p.add he') h0
theorem pickAll_pk {g : List Thing} {use : List Int} {l0 : List Held} {ws : List Want} {now til policy depth : Int} (hu : sok use = true) (h0 : heldR l0 = true) : ∃ l, PK use now til ws l0 l (pickAll g use l0 ws now til policy depth).1 := by
  unfold pickAll
  split
  · exact ⟨l0, PK.none h0⟩
  · exact pickL_pk hu ws _ (fun w hw => hw) (PK.none h0) h0
end Go.Av

namespace Go.Av
set_option linter.unusedVariables false
set_option linter.unusedSimpArgs false
def kpick (g : List Thing) (free : List Int) (kind most : Int) (l : List Int) : List Int := (l.filter fun n => inl free n.toNat && decide (kindAt g n.toNat = kind)).take most.toNat
theorem kpick_all (g : List Thing) (free : List Int) (node : Nat) (kind most : Int) : mkind g free node kind most = kpick g free kind most (mkids g node) := rfl
theorem kpick_step {g : List Thing} {free : List Int} {kind most : Int} {l : List Int} {k : Nat} {x : Int} (hx : l[k]? = some x) : kpick g free kind most (l.take (k + 1)) = if (decide (((kpick g free kind most (l.take k)).length : Int) < most) && (inl free x.toNat && decide (kindAt g x.toNat = kind))) = true then kpick g free kind most (l.take k) ++ [x] else kpick g free kind most (l.take k) := by
  unfold kpick
  rw [List.take_add_one, hx, List.filter_append]
  cases h : (inl free x.toNat && decide (kindAt g x.toNat = kind)) with
  | false => simp [h]
  | true =>
    simp only [Option.toList_some, List.filter_cons, h, if_true, List.filter_nil, Bool.and_true, decide_eq_true_eq]
    generalize (l.take k).filter (fun n => inl free n.toNat && decide (kindAt g n.toNat = kind)) = a
    by_cases hl : a.length < most.toNat
    · rw [List.take_of_length_le (by simp; omega), List.take_of_length_le (by omega), if_pos (by omega)]
    · rw [List.take_append_of_le_length (by omega), if_neg (by rw [List.length_take]; omega)]
theorem kpick_le (g : List Thing) (free : List Int) (kind most : Int) (l : List Int) : (kpick g free kind most l).length ≤ l.length := by
  unfold kpick
  exact ((List.take_sublist _ _).trans List.filter_sublist).length_le
theorem mkids_len {g : List Thing} (hg : gright g = true) (node : Nat) : (mkids g node).length ≤ 256 := Nat.le_trans (idx_len _ _) (gright_len hg).2
theorem mkids_in {g : List Thing} {node : Nat} {x : Int} (hx : x ∈ mkids g node) : ∃ k : Nat, x = (k : Int) ∧ k < g.length := by
  obtain ⟨k, h1, h2, _⟩ := mkids_mem.1 hx
  exact ⟨k, h1, h2⟩
theorem mkind_le {g : List Thing} (hg : gright g = true) (free : List Int) (node : Nat) (kind most : Int) : (mkind g free node kind most).length ≤ 256 := Nat.le_trans (kpick_le _ _ _ _ _) (mkids_len hg node)
theorem mhere_le {g : List Thing} (hg : gright g = true) (free : List Int) (s : Spec) (node : Nat) : (mhere g free s node).1.length ≤ 257 := by
  have h1 := mkids_len hg node
  have h2 : (sjoin (mkind g free node 3 s.cores) (mkind g free node 4 s.gpus)).length ≤ 256 := setop_len _ _ _
  unfold mhere
  (repeat' split) <;> simp <;> omega
theorem mfindL_le {g : List Thing} (free : List Int) (s : Spec) : ∀ k, (mfindL g free s k).1.length ≤ 256
  | 0 => by simp [mfindL]
  | k + 1 => by
    have h := mfindL_le free s k (g := g)
    rw [mfindL]
    split
    · exact setop_len _ _ _
    · exact h
theorem mfindL_left {g : List Thing} (free : List Int) (s : Spec) : ∀ k : Nat, s.nodes - (k : Int) ≤ (mfindL g free s k).2 ∧ (mfindL g free s k).2 ≤ s.nodes
  | 0 => by simp [mfindL]
  | k + 1 => by
    have h := mfindL_left free s k (g := g)
    rw [mfindL]
    split
    · simp only; omega
    · omega
theorem mfindL_stop {g : List Thing} {free : List Int} {s : Spec} {k : Nat} (h : ¬ 0 < (mfindL g free s k).2) : ∀ d, mfindL g free s (k + d) = mfindL g free s k
  | 0 => rfl
  | d + 1 => by
    have := mfindL_stop h d
    rw [← Nat.add_assoc, mfindL, this, if_neg (fun e => h e.1)]
end Go.Av

namespace Go.Av
open Go.Proofs
set_option maxRecDepth 10000
set_option linter.unusedSimpArgs false
set_option linter.unusedVariables false
theorem kpick_nil (g : List Thing) (free : List Int) (kind most : Int) : kpick g free kind most [] = [] := by simp [kpick]
theorem eN1_len (l : List Int) : ∀ r ∈ l.map eN1, r.length = 1 := rows_len (e := eN1) (n := 1) (fun _ => rfl) l
set_option maxHeartbeats 0 in
theorem match_kind (g : List Thing) (free : List Int) (s : Spec) (node : Nat) (kind most : Int) (p : Nat) (H : Heap) (hg : gright g = true) (hn : node < g.length) (hid : H[p]? = some ⟨0, 10, [eSeek g free s]⟩) : AC Tryz.prog 223 [.pt p 0 0 0, .int .i64 (node : Int), .int .i64 kind, .int .i64 most] H (Ret (.pl ((mkind g free node kind most).map eN1)) H) := by
  have hF := hid
  have hp0 : p < H.length := (List.getElem?_eq_some_iff.1 hid).1
  have hkr := kidR_get hn
  have hkl := mkids_len hg node
  have hmem : ∀ x ∈ mkids g node, ∃ k : Nat, x = (k : Int) ∧ k < g.length := fun x hx => mkids_in hx
  rw [kpick_all]
  generalize mkids g node = l at hkr hkl hmem
  refine AC.body (N := 55) [.tmp 8] Tryz.func223 rfl rfl rfl (Nat.le_of_ble_eq_true rfl) fun B hB => ?_
  repeat (refine aw_seq ?_)
  refine Z2p ?_
  repeat (first | refine then_nrm ?_ | refine aw_seq ?_)
  refine Z2p ?_
  repeat (first | refine then_nrm ?_ | refine aw_seq ?_)
  refine aw_ghostL (k := 0) 9 1 rfl (by decide) rfl ?_
  refine Zgm ?_
  refine Zgo ?_
  refine Z6 ?_
  refine Zi2 ?_
  refine Zi3 ?_
  refine Z34 ?_
  refine Zi4 ?_
  repeat (first | refine then_nrm ?_ | refine aw_block ?_)
  refine aw_loop (G := Nat) (fun k => k ≤ l.length) (fun k => [(0, .pt p 0 0 0), (2, .int .i64 kind), (3, .int .i64 most), (9, .sl (Lid H.length 0) (kpick g free kind most (l.take k)).length 0 (kpick g free kind most (l.take k)).length (kpick g free kind most (l.take k)).length), (18, .pl (l.map eN1)), (19, .int .i64 (l.length : Int)), (20, .int .i64 (k : Int))]) (fun k => H ++ [⟨(kpick g free kind most (l.take k)).length, 1, (kpick g free kind most (l.take k)).map eN1⟩]) (fun k => l.length - k) 0 (Nat.zero_le _) (by simp only [List.take_zero, kpick_nil]; exact (by repeat (first | exact Sub.nil | refine Sub.cons (by first | rfl | (simp [get]; done)) ?_))) (.inl (by rw [List.take_zero, kpick_nil]; rfl)) ?_
  intro k hk
  repeat (refine aw_seq ?_)
  refine Z36 ?_
  repeat (first | refine then_nrm ?_ | refine aw_seq ?_)
  refine aw_cond rfl (fun hc => ?_) (fun hc => ?_)
  · have hlt : k < l.length := by simpa using hc
    obtain ⟨x, hx, hxl⟩ := get_in hlt
    have hr := map_get eN1 hx
    obtain ⟨m, rfl, hm⟩ := hmem x hxl
    obtain ⟨t, ht, _⟩ := get_in hm
    have hrT := map_get eThing ht
    have hrI := inRows_get (l := free) hm
    have hst := kpick_step (g := g) (free := free) (kind := kind) (most := most) hx
    have hle := kpick_le g free kind most (l.take k)
    rw [List.length_take] at hle
    rw [Int.toNat_natCast, show kindAt g m = t.kind by rw [kindAt, ht]] at hst
    generalize kpick g free kind most (l.take k) = acc at hst hle ⊢
    clear hc hmem hkr
    repeat (first | refine then_nrm ?_ | refine aw_seq ?_ | refine aw_block ?_ | refine aw_skip ?_)
    refine Z3b ?_
    repeat (first | refine then_nrm ?_ | refine aw_seq ?_)
    refine aw_out 48 (.bool (decide ((acc.length : Int) < most) && (inl free m && decide (t.kind = kind)))) ?_ ?_
    · refine Z77 ?_
      refine Zi5 ?_
      refine Zr ?_
      refine ao_split rfl rfl (fun hg4 => ?_) (fun hg4 => ?_)
      · refine Zi6 ?_
        refine Zi7 ?_
        refine Zi8 ?_
        refine ao_y1 rfl rfl (by decide) (w_load1 (v := .pl (inRows g free)) rfl (lkF hF) rfl rfl rfl) ?_
        refine Ze ?_
        refine ao_y1 rfl rfl (by decide) (w_indexAddrpN rfl rfl hrI rfl) ?_
        refine ao_y1 rfl rfl (by decide) (o_load1p (v := .bool _) rfl hrI rfl) ?_
        refine Z24 ?_
        refine ao_split rfl rfl (fun hg13 => ?_) (fun hg13 => ?_)
        · refine Zi6 ?_
          refine Zi7 ?_
          refine Zi8 ?_
          refine ao_y1 rfl rfl (by decide) (w_load1 (v := .pl (g.map eThing)) rfl (lkF hF) rfl rfl rfl) ?_
          refine Ze ?_
          refine ao_y1 rfl rfl (by decide) (w_indexAddrpN rfl rfl hrT rfl) ?_
          refine Zi9 ?_
          refine ao_y1 rfl rfl (by decide) (o_load1p (v := .int _ _) rfl hrT rfl) ?_
          refine Z4b ?_
          refine Zg ?_
          exact ao_nil (Out.mk (by (refine congrArg AV.bool ?_; (clear hB hst hr hrT hrI ht; grind))) (by repeat (first | exact SubX.refl _ _ | refine SubX.at ?_ | refine SubX.put rfl ?_)))
        · refine Z3n ?_
          refine Zia ?_
          refine Zm ?_
          exact ao_nil (Out.mk (by (refine congrArg AV.bool ?_; (clear hB hst hr hrT hrI ht; (simp_all; done)))) (by repeat (first | exact SubX.refl _ _ | refine SubX.at ?_ | refine SubX.put rfl ?_)))
      · refine Z3n ?_
        refine Z45 ?_
        refine Z3o ?_
        refine Zm ?_
        exact ao_nil (Out.mk (by (refine congrArg AV.bool ?_; (clear hB hst hr hrT hrI ht; (simp_all; omega)))) (by repeat (first | exact SubX.refl _ _ | refine SubX.at ?_ | refine SubX.put rfl ?_)))
    repeat (refine then_nrm ?_)
    refine aw_cond rfl (fun hc => ?_) (fun hc => ?_)
    · rw [if_pos hc] at hst
      refine Z79 ?_
      refine Z7a ?_
      refine Z7d ?_
      refine Z9x ?_
      rw [show (acc.map eN1).take acc.length = acc.map eN1 from List.take_of_length_le (by simp)]
      repeat (first | refine then_nrm ?_ | refine blk_nrm ?_)
      refine Z3i ?_
      repeat (refine then_nrm ?_)
      exact ⟨k + 1, by omega, by omega, by rw [hst, List.length_append]; exact (by repeat (first | exact Sub.nil | refine Sub.cons (by rfl) ?_)), by rw [hst, List.length_append]; exact Fit.loc hB (by rw [List.map_append]; rfl) (by repeat (first | exact EBel.nil | refine EBel.cons (by first | rfl | (simp [AV.bel, AV.bels, Lid]; done) | (simp [AV.bel, AV.bels, Lid]; omega)) ?_)) (by intro o ho r hr; simp only [List.mem_singleton] at ho; subst ho; exact ints_bel _ _ r hr)⟩
    · rw [if_neg (by rw [hc]; decide)] at hst
      repeat (first | refine then_nrm ?_ | refine blk_nrm ?_ | refine aw_skip ?_)
      refine Z3i ?_
      repeat (refine then_nrm ?_)
      exact ⟨k + 1, by omega, by omega, by rw [hst]; exact (by repeat (first | exact Sub.nil | refine Sub.cons (by rfl) ?_)), by rw [hst]; exact Fit.refl _ _⟩
  · have : k = l.length := by simp at hc; omega
    subst this
    rw [List.take_length]
    repeat (first | refine then_nrm ?_ | refine then_brk ?_ | refine blk_hit ?_ | refine aw_seq ?_ | refine aw_exit ?_)
    refine Z7f ?_
    repeat (refine then_nrm ?_)
    refine aw_freezeL (ys := (kpick g free kind most l).map eN1) 8 rfl rfl rfl rfl (by rw [List.drop_zero, List.take_of_length_le (by simp)]) (by simp) (ints_bel 0 _) ?_
    exact Z7g
set_option maxHeartbeats 0 in
theorem match_here (g : List Thing) (free : List Int) (s : Spec) (node : Nat) (p : Nat) (H : Heap) (hg : gright g = true) (hn : node < g.length) (hid : H[p]? = some ⟨0, 10, [eSeek g free s]⟩) : ACT Tryz.prog KD 216 [.pt p 0 0 0, .int .i64 (node : Int)] H (Ret (.tup [.pl ((mhere g free s node).1.map eN1), .bool (mhere g free s node).2]) H) := by
  have hF := hid
  have hp0 : p < H.length := (List.getElem?_eq_some_iff.1 hid).1
  have hkr := kidR_get hn
  have hkl := mkids_len hg node
  have hmem : ∀ x ∈ mkids g node, ∃ k : Nat, x = (k : Int) ∧ k < g.length := fun x hx => mkids_in hx
  obtain ⟨t, ht, _⟩ := get_in hn
  have hrT := map_get eThing ht
  have hrI := inRows_get (l := free) hn
  have l3 := mkind_le hg free node 3 s.cores
  have l4 := mkind_le hg free node 4 s.gpus
  refine ACT.body (N := 123) [.tmp 4, .tmp 5] Tryz.func216 rfl rfl rfl (Nat.le_of_ble_eq_true rfl) fun B hB => ?_
  repeat (refine aw_seq ?_)
  refine Zib ?_
  repeat (first | refine then_nrm ?_ | refine aw_seq ?_)
  refine Zgm ?_
  refine ao1 (by decide) (w_load1 (v := .pl (g.map eThing)) rfl (lkF hF) rfl rfl rfl) ?_
  refine Z6 ?_
  refine ao1 (by decide) (w_indexAddrpN rfl rfl hrT rfl) ?_
  refine ao1 (by decide) (w_loadRp rfl hrT rfl) ?_
  refine Z7p ?_
  refine Z7q ?_
  refine ao_nil ?_
  try dsimp only [put, List.length_nil, Nat.reduceAdd, List.nil_append, List.set_cons_zero]
  repeat (first | refine then_nrm ?_ | refine aw_seq ?_)
  refine aw_of_out 48 (.bool (!(decide (t.kind = 2) && inl free node && (decide (s.tag = ⟨#[]⟩) || decide (t.tag = s.tag))))) ?_ ?_
  · refine Z7u ?_
    refine Z7v ?_
    refine Z7w ?_
    refine aq0 2 rfl (by decide +kernel) (by decide) (fun _ => o_ne rfl rfl) ?_
    refine Z67 ?_
    refine aq_split (g := 21) rfl (fun hg3 => ?_) (fun hg3 => ?_)
    · refine Zic ?_
      refine Zid ?_
      refine Zie ?_
      refine Zbd ?_
      refine Zbe ?_
      refine Zbf ?_
      refine Zbg ?_
      refine Zbh ?_
      refine aq0 12 rfl (by decide +kernel) (by decide) (fun _ => o_pick_t (v := .bool _) rfl rfl) ?_
      refine Zif ?_
      refine Zig ?_
      refine Zih ?_
      refine Zii ?_
      refine Zij ?_
      refine Zik ?_
      refine Zil ?_
      refine Zim ?_
      refine Zin ?_
      refine Zio ?_
      refine Zip ?_
      refine Ziq ?_
      refine Zir ?_
      refine Zis ?_
      refine Zit ?_
      refine Ziu ?_
      refine Ziv ?_
      refine Ziw ?_
      exact Zix
    · refine aqy0 (g := 21) 4 rfl (by decide +kernel) (by decide) rfl rfl (fun _ => o_move (v := .pt _ _ _ _) rfl) ?_
      refine aqyp (g := 21) 5 rfl (by decide +kernel) (by decide) rfl rfl (fun G => w_nilCheck rfl (lkF hF) rfl) ?_
      refine aqyp (g := 21) 6 rfl (by decide +kernel) (by decide) rfl rfl (fun G => w_fieldAddr rfl (lkF hF) rfl (by decide)) ?_
      refine aqyp (g := 21) 7 rfl (by decide +kernel) (by decide) rfl rfl (fun G => w_load1 (v := .pl (inRows g free)) rfl (lkF hF) rfl rfl rfl) ?_
      refine aqy0 (g := 21) 8 rfl (by decide +kernel) (by decide) rfl rfl (fun _ => o_move (v := .int _ _) rfl) ?_
      refine aqyp (g := 21) 9 rfl (by decide +kernel) (by decide) rfl rfl (fun G => w_indexAddrpN rfl rfl hrI rfl) ?_
      refine aqyp (g := 21) 10 rfl (by decide +kernel) (by decide) rfl rfl (fun G => o_load1p (v := .bool _) rfl hrI rfl) ?_
      refine aqy0 (g := 21) 11 rfl (by decide +kernel) (by decide) rfl rfl (fun _ => o_not rfl) ?_
      refine aq0 12 rfl (by decide +kernel) (by decide) (fun _ => o_pick_f (v := .bool _) rfl rfl) ?_
      refine Zif ?_
      refine aq_split (g := 31) rfl (fun hg13 => ?_) (fun hg13 => ?_)
      · refine Zig ?_
        refine Zih ?_
        refine Zii ?_
        refine Zij ?_
        refine Zik ?_
        refine Zil ?_
        refine Zim ?_
        refine Zin ?_
        refine Zio ?_
        refine Zip ?_
        refine Ziq ?_
        refine Zir ?_
        refine Zis ?_
        refine Zit ?_
        refine Ziu ?_
        refine Ziv ?_
        refine Ziw ?_
        exact Zix
      · refine aqy0 (g := 31) 14 rfl (by decide +kernel) (by decide) rfl rfl (fun _ => o_move (v := .pt _ _ _ _) rfl) ?_
        refine aqyp (g := 31) 15 rfl (by decide +kernel) (by decide) rfl rfl (fun G => w_nilCheck rfl (lkF hF) rfl) ?_
        refine aqyp (g := 31) 16 rfl (by decide +kernel) (by decide) rfl rfl (fun G => w_fieldAddr rfl (lkF hF) rfl (by decide)) ?_
        refine aqyp (g := 31) 17 rfl (by decide +kernel) (by decide) rfl rfl (fun G => w_fieldAddr rfl (lkF hF) rfl (by decide)) ?_
        refine aqyp (g := 31) 18 rfl (by decide +kernel) (by decide) rfl rfl (fun G => w_load1 (v := .str s.tag) rfl (lkF hF) rfl rfl rfl) ?_
        refine aqy0 (g := 31) 19 rfl (by decide +kernel) (by decide) rfl rfl (fun _ => o_sned rfl rfl) ?_
        refine aqy0 (g := 31) 20 rfl (by decide +kernel) (by decide) rfl rfl (fun _ => o_move (v := .bool _) rfl) ?_
        refine aq_split (g := 38) rfl (fun hg20 => ?_) (fun hg20 => ?_)
        · refine aqyp (g := 38) 21 rfl (by decide +kernel) (by decide) rfl rfl (fun G => w_fieldAddr rfl (lk rfl rfl) rfl (by decide)) ?_
          refine aqyp (g := 38) 22 rfl (by decide +kernel) (by decide) rfl rfl (fun G => w_load1 (v := .str _) rfl (lk rfl rfl) rfl rfl rfl) ?_
          refine aqy0 (g := 38) 23 rfl (by decide +kernel) (by decide) rfl rfl (fun _ => o_move (v := .pt _ _ _ _) rfl) ?_
          refine aqyp (g := 38) 24 rfl (by decide +kernel) (by decide) rfl rfl (fun G => w_nilCheck rfl (lkF hF) rfl) ?_
          refine aqyp (g := 38) 25 rfl (by decide +kernel) (by decide) rfl rfl (fun G => w_fieldAddr rfl (lkF hF) rfl (by decide)) ?_
          refine aqyp (g := 38) 26 rfl (by decide +kernel) (by decide) rfl rfl (fun G => w_fieldAddr rfl (lkF hF) rfl (by decide)) ?_
          refine aqyp (g := 38) 27 rfl (by decide +kernel) (by decide) rfl rfl (fun G => w_load1 (v := .str s.tag) rfl (lkF hF) rfl rfl rfl) ?_
          refine aqy0 (g := 38) 28 rfl (by decide +kernel) (by decide) rfl rfl (fun _ => o_sned rfl rfl) ?_
          refine aqy0 (g := 31) 29 rfl (by decide +kernel) (by decide) rfl rfl (fun _ => o_pick_t (v := .bool _) rfl rfl) ?_
          refine Ziy ?_
          exact Zix
        · refine aqn0 (g := 38) 21 rfl (by decide +kernel) (by decide) rfl rfl rfl ?_
          refine aqn0 (g := 38) 22 rfl (by decide +kernel) (by decide) rfl rfl rfl ?_
          refine aqn0 (g := 38) 23 rfl (by decide +kernel) (by decide) rfl rfl rfl ?_
          refine aqn0 (g := 38) 24 rfl (by decide +kernel) (by decide) rfl rfl rfl ?_
          refine aqn0 (g := 38) 25 rfl (by decide +kernel) (by decide) rfl rfl rfl ?_
          refine aqn0 (g := 38) 26 rfl (by decide +kernel) (by decide) rfl rfl rfl ?_
          refine aqn0 (g := 38) 27 rfl (by decide +kernel) (by decide) rfl rfl rfl ?_
          refine aqn0 (g := 38) 28 rfl (by decide +kernel) (by decide) rfl rfl rfl ?_
          refine aqy0 (g := 31) 29 rfl (by decide +kernel) (by decide) rfl rfl (fun _ => o_pick_f (v := .bool _) rfl rfl) ?_
          refine Ziy ?_
          exact Zix
  have hmh : mhere g free s node = if !(decide (t.kind = 2) && inl free node && (decide (s.tag = ⟨#[]⟩) || decide (t.tag = s.tag))) then ([], false)
    else if decide (((mkind g free node 3 s.cores).length : Int) < s.cores) || decide (((mkind g free node 4 s.gpus).length : Int) < s.gpus) then ([], false)
    else if !s.whole then (sjoin (mkind g free node 3 s.cores) (mkind g free node 4 s.gpus), true)
    else if (mkids g node).all (fun n => inl free n.toNat) then ((node : Int) :: mkids g node, true) else ([], false) := by
    rw [mhere, show kindAt g node = t.kind by rw [kindAt, ht], show tagAt g node = t.tag by rw [tagAt, ht]]
  rw [hmh]
  clear hmh
  repeat (refine then_nrm ?_)
  refine aw_cond rfl (fun hc => ?_) (fun hc => ?_)
  · rw [if_pos hc]
    repeat (refine aw_seq ?_)
    refine Zib ?_
    try dsimp only
    repeat (refine then_nrm ?_)
    refine aw_nslpl 4 rfl ?_
    exact Zg8
  rw [if_neg (by rw [hc]; decide)]
  clear hc
  have ck3 := fun H => match_kind g free s node 3 s.cores p H hg hn
  have ck4 := fun H => match_kind g free s node 4 s.gpus p H hg hn
  generalize mkind g free node 3 s.cores = c3 at ck3 l3 ⊢
  generalize mkind g free node 4 s.gpus = c4 at ck4 l4 ⊢
  repeat (first | refine then_nrm ?_ | refine aw_seq ?_ | refine aw_skip ?_)
  refine Z7u ?_
  refine Zev ?_
  refine Z17 ?_
  refine Zfi ?_
  refine aqp 3 rfl (by decide +kernel) (by decide) (fun G => w_nilCheck rfl (lkF hF) rfl) ?_
  refine Ziz ?_
  refine aqp 5 rfl (by decide +kernel) (by decide) (fun G => w_fieldAddr rfl (lkF hF) rfl (by decide)) ?_
  refine aqp 6 rfl (by decide +kernel) (by decide) (fun G => w_load1 (v := .int .i64 s.cores) rfl (lkF hF) rfl rfl rfl) ?_
  refine aqp2 7 rfl (by decide +kernel) (by decide) (fun G => V2.call (ck3 _ (lkF hF)) rfl) ?_
  refine aq0 8 rfl (by decide +kernel) (by decide) (fun _ => o_move (v := .pt _ _ _ _) rfl) ?_
  refine Zh6 ?_
  refine Zf5 ?_
  refine Zf6 ?_
  refine Zf7 ?_
  refine Zf8 ?_
  refine aqp 14 rfl (by decide +kernel) (by decide) (fun G => w_load1 (v := .int .i64 s.gpus) rfl (lkF hF) rfl rfl rfl) ?_
  refine aqp2 15 rfl (by decide +kernel) (by decide) (fun G => V2.call (ck4 _ (lkF hF)) rfl) ?_
  refine Zj0 ?_
  refine Zfa ?_
  refine Zfb ?_
  repeat (first | refine then_nrm ?_ | refine aw_seq ?_)
  refine aw_out 82 (.bool (decide ((c3.length : Int) < s.cores) || decide ((c4.length : Int) < s.gpus))) ?_ ?_
  · refine Z5a ?_
    refine Zgi ?_
    refine Zgl ?_
    refine Zgk ?_
    refine ao1 (by decide) (w_load1 (v := .int .i64 s.cores) rfl (lkF hF) rfl rfl rfl) ?_
    refine Zq ?_
    refine ao_split rfl rfl (fun hg8 => ?_) (fun hg8 => ?_)
    · refine Z3c ?_
      refine Z3d ?_
      exact ao_nil (Out.mk (by (refine congrArg AV.bool ?_; (clear hB ck3 ck4 hmem hkr; (simp_all; done)))) (by repeat (first | exact SubX.refl _ _ | refine SubX.at ?_ | refine SubX.put rfl ?_)))
    · refine Z7l ?_
      refine Zi6 ?_
      refine Zi7 ?_
      refine Zi8 ?_
      refine Zi8 ?_
      refine ao_y1 rfl rfl (by decide) (w_load1 (v := .int .i64 s.gpus) rfl (lkF hF) rfl rfl rfl) ?_
      refine Zf ?_
      refine Zm ?_
      exact ao_nil (Out.mk (by (refine congrArg AV.bool ?_; (clear hB ck3 ck4 hmem hkr; (simp_all; omega)))) (by repeat (first | exact SubX.refl _ _ | refine SubX.at ?_ | refine SubX.put rfl ?_)))
  repeat (refine then_nrm ?_)
  refine aw_cond rfl (fun hc => ?_) (fun hc => ?_)
  · rw [if_pos hc]
    repeat (refine aw_seq ?_)
    refine Zib ?_
    try dsimp only
    repeat (refine then_nrm ?_)
    refine aw_nslpl 4 rfl ?_
    exact Zg8
  rw [if_neg (by rw [hc]; decide)]
  clear hc ck3 ck4
  repeat (first | refine then_nrm ?_ | refine aw_seq ?_ | refine aw_skip ?_)
  refine Zgn ?_
  refine ao1 (by decide) (w_load1 (v := .bool s.whole) rfl (lkF hF) rfl rfl rfl) ?_
  refine Z2j ?_
  refine Z2l ?_
  repeat (refine then_nrm ?_)
  refine aw_cond rfl (fun hc => ?_) (fun hc => ?_)
  · rw [if_pos hc]
    repeat (refine aw_seq ?_)
    refine Z6d ?_
    refine ao2 (by rintro _ ⟨⟩; decide) (V2.callT (set_Join c3 c4 (by omega) (by omega) _) rfl rfl) ?_
    refine Z2u ?_
    refine Z9o ?_
    repeat (first | refine then_nrm ?_ | refine then_ret ?_ | refine aw_ret ?_)
    exact Z4e
  rw [if_neg (by rw [hc]; decide)]
  clear hc
  generalize mkids g node = l at hkr hkl hmem
  repeat (first | refine then_nrm ?_ | refine aw_seq ?_ | refine aw_skip ?_)
  refine Zgm ?_
  refine Zj1 ?_
  refine Z6 ?_
  refine Zi2 ?_
  refine Zi3 ?_
  refine Z35 ?_
  repeat (first | refine then_nrm ?_ | refine aw_block ?_)
  refine aw_loop (G := Nat) (fun k => k ≤ l.length ∧ ∀ x ∈ l.take k, inl free x.toNat = true) (fun k => [(0, .pt p 0 0 0), (1, .int .i64 (node : Int)), (98, .pl (l.map eN1)), (99, .int .i64 (l.length : Int)), (100, .int .i64 (k : Int))]) (fun _ => H ++ [⟨0, 3, [eThing t]⟩]) (fun k => l.length - k) 0 ⟨Nat.zero_le _, by simp⟩ (by repeat (first | exact Sub.nil | refine Sub.cons (by first | rfl | (simp [get]; done)) ?_)) (.inl rfl) ?_
  rintro k ⟨hk, hno⟩
  repeat (refine aw_seq ?_)
  refine Z36 ?_
  repeat (first | refine then_nrm ?_ | refine aw_seq ?_)
  refine aw_cond rfl (fun hc => ?_) (fun hc => ?_)
  · have hlt : k < l.length := by simpa using hc
    obtain ⟨x, hx, hxl⟩ := get_in hlt
    have hr := map_get eN1 hx
    obtain ⟨m, rfl, hm⟩ := hmem x hxl
    have hrI2 := inRows_get (l := free) hm
    clear hc
    repeat (first | refine then_nrm ?_ | refine aw_seq ?_ | refine aw_block ?_ | refine aw_skip ?_)
    refine Z3b ?_
    repeat (first | refine then_nrm ?_ | refine aw_seq ?_)
    refine Zgm ?_
    refine ao1 (by decide) (w_load1 (v := .pl (inRows g free)) rfl (lkF hF) rfl rfl rfl) ?_
    refine Z6 ?_
    refine ao1 (by decide) (w_indexAddrpN rfl rfl hrI2 rfl) ?_
    refine ao1 (by decide) (o_load1p (v := .bool _) rfl hrI2 rfl) ?_
    refine Z2j ?_
    refine Z2l ?_
    repeat (refine then_nrm ?_)
    refine aw_cond rfl (fun hc => ?_) (fun hc => ?_)
    · have hbad : l.all (fun n => inl free n.toNat) = false := by
        rw [List.all_eq_false]
        exact ⟨_, hxl, by rw [Int.toNat_natCast]; simpa using hc⟩
      rw [if_neg (by rw [hbad]; decide)]
      repeat (refine aw_seq ?_)
      refine Zib ?_
      try dsimp only
      repeat (refine then_nrm ?_)
      refine aw_nslpl 4 rfl ?_
      exact Zg8
    · repeat (first | refine then_nrm ?_ | refine blk_nrm ?_ | refine aw_skip ?_)
      refine Z3i ?_
      repeat (refine then_nrm ?_)
      refine ⟨k + 1, by omega, ⟨by omega, ?_⟩, (by repeat (first | exact Sub.nil | refine Sub.cons (by rfl) ?_)), .inl rfl⟩
      rw [take_snoc_get hx]
      intro y hy
      rcases List.mem_append.1 hy with h | h
      · exact hno y h
      · simp only [List.mem_singleton] at h
        subst h
        rw [Int.toNat_natCast]
        simpa using hc
  · have : k = l.length := by simp at hc; omega
    subst this
    rw [List.take_length] at hno
    rw [if_pos (List.all_eq_true.2 hno)]
    clear hc
    repeat (first | refine then_nrm ?_ | refine then_brk ?_ | refine blk_hit ?_ | refine aw_seq ?_ | refine aw_exit ?_)
    refine Zv ?_
    refine ao2 (by rintro _ ⟨⟩; decide) (o_buildSlice1L (sz := 1) (v := .int .i64 (node : Int)) (cs := [.int .i64 (node : Int)]) rfl (by decide) (by decide) rfl rfl rfl rfl rfl) ?_
    refine Zgi ?_
    refine Zgl ?_
    refine Zj1 ?_
    refine Z6 ?_
    refine Zi2 ?_
    refine Zi3 ?_
    refine ao2 (by rintro _ ⟨⟩; decide) (g_append rfl rfl rfl rfl rfl (Src.pl rfl (eN1_len l)) rfl (by simp) (by simp; omega) (by simp; omega)) ?_
    refine Z7b ?_
    refine Z9 ?_
    try dsimp only [List.length_cons, List.length_nil, Nat.reduceAdd, put, List.cons_append, List.nil_append, List.take_succ_cons, List.take_zero, List.set_cons_succ, List.set_cons_zero]
    repeat (refine then_nrm ?_)
    refine aw_freezeL (ys := ((node : Int) :: l).map eN1) 4 rfl rfl rfl rfl (by rw [List.drop_zero]; exact List.take_of_length_le (by simp; omega)) (by simp; omega) (ints_bel 0 _) ?_
    exact Zg8
theorem match_may (g : List Thing) (free : List Int) (s : Spec) (H : Heap) (hl : g.length ≤ 1000000) (hf : free.length ≤ 1000000) : AC Tryz.prog 214 [.pl (g.map eThing), .pl (free.map eI), .agg (eSpec s)] H (Ret (.bool (mmay g free s)) H) := by
  refine AC.body (N := 17) [.tmp 6] Tryz.func214 rfl rfl rfl (Nat.le_of_ble_eq_true rfl) fun B hB => ?_
  repeat (refine aw_seq ?_)
  refine Z1w ?_
  refine Z1y ?_
  repeat (first | refine then_nrm ?_ | refine aw_seq ?_)
  refine aw_out 6 (.bool (mmay g free s)) ?_ ?_
  · refine Z2q ?_
    refine Zfs ?_
    refine Zc ?_
    refine ao_split rfl rfl (fun hg2 => ?_) (fun hg2 => ?_)
    · refine Z7j ?_
      refine Za4 ?_
      refine Z24 ?_
      refine ao_split rfl rfl (fun hg6 => ?_) (fun hg6 => ?_)
      · refine Z41 ?_
        refine Z40 ?_
        refine Zh ?_
        exact Zj2
      · refine Zo ?_
        exact Zj2
    · refine Z47 ?_
      refine Zo ?_
      exact Zj2
  repeat (first | refine then_nrm ?_ | refine aw_ret ?_)
  exact Z7
end Go.Av

namespace Go.Av
open Go.Proofs
set_option maxRecDepth 10000
set_option linter.unusedSimpArgs false
set_option linter.unusedVariables false
theorem V2.callK {P : Program} {N : Nat} {env : Env} {H0 L K : Heap} {ty : TypeId} {f : Nat} {xs : Array Operand} {ts : Array TypeId} {vs : List AV} {v v' : AV} [FnI P f] (hac : AC P f vs (H0 ++ L) (Ret v' ((H0 ++ L) ++ K))) (hvs : xs.toList.map (aev env) = vs) (hv : v' = v) :
    V2 P N (.call { callee := .value (.func f), args := xs, argTypes := ts }) ty env (H0 ++ L) v (H0 ++ (L ++ K)) := by
  subst hv
  have := V2.call (N := N) (ty := ty) (ts := ts) hac hvs
  rwa [List.append_assoc] at this
set_option maxHeartbeats 0 in
theorem match_Find (g : List Thing) (free : List Int) (s : Spec) (H : Heap) (hl : g.length ≤ 1000000) (hf : free.length ≤ 1000000) : ACT Tryz.prog KD 197 [.pl (g.map eThing), .pl (free.map eI), .agg (eSpec s)] H (Ret (.tup [.pl ((mfind g free s).1.map eN1), .bool (mfind g free s).2]) H) := by
  refine ACT.body (N := 50) [.tmp 6, .tmp 7] Tryz.func197 rfl rfl rfl (Nat.le_of_ble_eq_true rfl) fun B hB => ?_
  repeat (refine aw_seq ?_)
  refine Z1w ?_
  refine Z2n ?_
  refine Z1y ?_
  repeat (first | refine then_nrm ?_ | refine aw_seq ?_)
  refine Z6d ?_
  refine Z2h ?_
  refine ao_ret (match_may _ _ _ _ (by omega) (by omega)) rfl (by decide) ?_
  refine Z2j ?_
  repeat (refine then_nrm ?_)
  refine aw_cond rfl (fun hc => ?_) (fun hc => ?_)
  · have hno : mfind g free s = ([], false) := by rw [mfind, if_pos hc]
    rw [hno]
    repeat (refine aw_seq ?_)
    refine Zib ?_
    try dsimp only
    repeat (refine then_nrm ?_)
    refine aw_nslpl 6 rfl ?_
    exact Zg8
  have hmay : mmay g free s = true := by simpa only [Bool.not_eq_false'] using hc
  have hmay' := hmay
  simp only [mmay, Bool.and_eq_true] at hmay'
  obtain ⟨⟨hg, hfs⟩, hss⟩ := hmay'
  have hlen := gright_len hg
  have hsf := sright_facts hss
  have hfind : mfind g free s = if 0 < (mfindL g free s g.length).2 then ([], false) else ((mfindL g free s g.length).1, true) := by rw [mfind, hmay]; rfl
  rw [hfind]
  clear hc hfind
  repeat (first | refine then_nrm ?_ | refine aw_seq ?_ | refine aw_skip ?_)
  refine Z6d ?_
  refine Z2h ?_
  refine ao2 (by rintro _ ⟨⟩; decide) (V2.callK (v := .pt (Lid H.length 4) 0 0 0) (match_seek g free s _ hg hfs) rfl (by simp [Lid])) ?_
  refine Zff ?_
  try dsimp only [put, List.cons_append, List.nil_append]
  repeat (first | refine then_nrm ?_ | refine aw_seq ?_)
  refine Z2p ?_
  repeat (first | refine then_nrm ?_ | refine aw_seq ?_)
  refine Z3p ?_
  refine Z2m ?_
  repeat (first | refine then_nrm ?_ | refine aw_seq ?_)
  refine Z3 ?_
  repeat (first | refine then_nrm ?_ | refine aw_block ?_)
  refine aw_nslpl 9 rfl ?_
  refine aw_loop (G := Nat) (fun i => i ≤ g.length) (fun i => [(KT, KD.av), (0, .pl (g.map eThing)), (8, .pt (Lid H.length 4) 0 0 0), (9, .pl ((mfindL g free s i).1.map eN1)), (10, .int .i64 (mfindL g free s i).2), (11, .int .i64 (i : Int))]) (fun _ => H ++ [⟨0, 7, [eSpec s]⟩, ⟨0, 7, [eSpec s]⟩, ⟨1, 1, []⟩, ⟨1, 1, []⟩, ⟨0, 10, [eSeek g free s]⟩]) (fun i => g.length - i) 0 (Nat.zero_le _) (by repeat (first | exact Sub.nil | refine Sub.cons (by rfl) ?_)) (.inl rfl) ?_
  intro i hi
  have hle := mfindL_le (g := g) free s i
  have hlf := mfindL_left (g := g) free s i
  repeat (refine aw_seq ?_)
  refine aw_out 32 (.bool (decide (i < g.length) && decide (0 < (mfindL g free s i).2))) ?_ ?_
  · refine Z6 ?_
    refine Z5a ?_
    refine Zq ?_
    refine ao_split rfl rfl (fun hg4 => ?_) (fun hg4 => ?_)
    · refine Z4s ?_
      refine Zg ?_
      exact Zft
    · refine Zl ?_
      refine Zm ?_
      exact Zh8
  repeat (refine then_nrm ?_)
  refine aw_cond rfl (fun hc => ?_) (fun hc => ?_)
  · rw [Bool.and_eq_true, decide_eq_true_eq, decide_eq_true_eq] at hc
    obtain ⟨hlt, hpos⟩ := hc
    have hst : mfindL g free s (i + 1) = if 0 < (mfindL g free s i).2 ∧ (mhere g free s i).2 = true then (sjoin (mfindL g free s i).1 (mhere g free s i).1, (mfindL g free s i).2 - 1) else mfindL g free s i := rfl
    have hml := mhere_le hg free s i
    repeat (first | refine then_nrm ?_ | refine aw_seq ?_ | refine aw_block ?_ | refine aw_skip ?_)
    refine Zgj ?_
    refine Z6 ?_
    refine ao2 (by rintro _ ⟨⟩; decide) (V2.callT (match_here g free s i (Lid H.length 4) _ hg hlt (lk rfl rfl)) rfl rfl) ?_
    refine Zgr ?_
    refine Z51 ?_
    refine Z2u ?_
    refine Z9o ?_
    generalize mhere g free s i = h at hst hml ⊢
    obtain ⟨hx, ok⟩ := h
    simp only at hst hml ⊢
    repeat (first | refine then_nrm ?_ | refine aw_seq ?_)
    refine Z1r ?_
    refine ao_nil ?_
    repeat (refine then_nrm ?_)
    refine aw_cond rfl (fun hc => ?_) (fun hc => ?_)
    · subst hc
      rw [if_pos ⟨hpos, rfl⟩] at hst
      repeat (refine aw_seq ?_)
      refine Z6d ?_
      refine ao2 (by rintro _ ⟨⟩; decide) (V2.callT (set_Join (mfindL g free s i).1 hx (by omega) (by omega) _) rfl rfl) ?_
      refine Z2v ?_
      repeat (refine then_nrm ?_)
      refine Zv ?_
      refine ao1 (by decide) (o_sub (r := (mfindL g free s i).2 - 1) rfl rfl (wrap64_ok (by omega) (by omega))) ?_
      refine Z2 ?_
      repeat (first | refine then_nrm ?_ | refine blk_nrm ?_)
      refine Z5g ?_
      repeat (refine then_nrm ?_)
      exact ⟨i + 1, by omega, by omega, by rw [hst]; exact (by repeat (first | exact Sub.nil | refine Sub.cons (by rfl) ?_)), .inl rfl⟩
    · subst hc
      rw [if_neg (fun e => by cases e.2)] at hst
      repeat (first | refine then_nrm ?_ | refine blk_nrm ?_ | refine aw_skip ?_)
      refine Z5g ?_
      repeat (refine then_nrm ?_)
      exact ⟨i + 1, by omega, by omega, by rw [hst]; exact (by repeat (first | exact Sub.nil | refine Sub.cons (by rfl) ?_)), .inl rfl⟩
  have hend : mfindL g free s g.length = mfindL g free s i := by
    rw [Bool.and_eq_false_iff, decide_eq_false_iff_not, decide_eq_false_iff_not] at hc
    rcases hc with h | h
    · rw [show i = g.length by omega]
    · have := mfindL_stop h (g.length - i)
      rw [← this, show i + (g.length - i) = g.length by omega]
  rw [hend]
  clear hc hend
  repeat (first | refine then_nrm ?_ | refine then_brk ?_ | refine blk_hit ?_ | refine aw_seq ?_ | refine aw_exit ?_)
  refine Zv ?_
  refine Z1t ?_
  repeat (refine then_nrm ?_)
  refine aw_cond rfl (fun hc => ?_) (fun hc => ?_)
  · have hp : 0 < (mfindL g free s i).2 := by simpa using hc
    rw [if_pos hp]
    repeat (refine aw_seq ?_)
    refine Zib ?_
    try dsimp only
    repeat (refine then_nrm ?_)
    refine aw_nslpl 6 rfl ?_
    exact Zg8
  · have hp : ¬ 0 < (mfindL g free s i).2 := by simpa using hc
    rw [if_neg hp]
    repeat (first | refine then_nrm ?_ | refine aw_seq ?_ | refine aw_skip ?_)
    refine Z2r ?_
    refine Z2u ?_
    refine Z9 ?_
    try dsimp only
    repeat (first | refine then_nrm ?_ | refine aw_ret ?_)
    exact Z4e
theorem gunder_le (g : List Thing) (n : Int) : (gunder g n).length ≤ 256 := by
  rw [gunder]
  split
  · rename_i h
    simp only [gthere, Bool.and_eq_true] at h
    exact Nat.le_trans (idx_len _ _) (gright_len h.2).2
  · decide
set_option maxHeartbeats 0 in
theorem match_Could (g : List Thing) (s : Spec) (H : Heap) (hl : g.length ≤ 1000000) : ACT Tryz.prog KD 175 [.pl (g.map eThing), .agg (eSpec s)] H (Ret (.bool (mcould g s)) H) := by
  have hgl := gunder_le g 0
  refine ACT.body (N := 16) [.tmp 4] Tryz.func175 rfl rfl rfl (Nat.le_of_ble_eq_true rfl) fun B hB => ?_
  repeat (refine aw_seq ?_)
  refine Z1w ?_
  refine Z1y ?_
  repeat (first | refine then_nrm ?_ | refine aw_seq ?_)
  refine Z7u ?_
  refine Z5e ?_
  refine Zha ?_
  refine aq02 2 rfl (by decide +kernel) (by decide) (fun _ => V2.call (graph_Under _ _ _ (by omega)) rfl) ?_
  refine aqp 3 rfl (by decide +kernel) (by decide) (fun G => w_loadR rfl (lk rfl rfl) rfl rfl rfl) ?_
  refine aq02 4 rfl (by decide +kernel) (by decide) (fun _ => V2.callT (match_Find g (gunder g 0) s _ hl (by omega)) rfl rfl) ?_
  refine Zj3 ?_
  refine aq0 6 rfl (by decide +kernel) (by decide) (fun _ => o_extract (v := .pl _) rfl rfl) ?_
  refine aq0 7 rfl (by decide +kernel) (by decide) (fun _ => o_extract (v := .bool _) rfl rfl) ?_
  refine aq0 8 rfl (by decide +kernel) (by decide) (fun _ => o_assign (v := .pl _) rfl) ?_
  refine aq0 9 rfl (by decide +kernel) (by decide) (fun _ => o_assign (v := .bool _) rfl) ?_
  refine Z19 ?_
  repeat (first | refine then_nrm ?_ | refine aw_seq ?_)
  refine Z1r ?_
  refine Z9 ?_
  repeat (first | refine then_nrm ?_ | refine aw_ret ?_)
  exact Z7
end Go.Av

namespace Go.Av
set_option linter.unusedVariables false
set_option linter.unusedSimpArgs false
theorem lostL_len (l : List Job) : ∀ k, (lostL l k).length = k
  | 0 => rfl
  | k + 1 => by rw [lostL, List.length_append, lostL_len l k]; rfl
theorem lostL_get (l : List Job) {j k : Nat} (hj : j < k) : ∀ m, k ≤ m → (lostL l m).getD j false = (lostL l k).getD j false
  | 0, e => by omega
  | m + 1, e => by
    rcases Nat.lt_or_eq_of_le e with h1 | h1
    · rw [lostL, List.getD_eq_getElem?_getD, List.getElem?_append_left (by rw [lostL_len]; omega), ← List.getD_eq_getElem?_getD]
      exact lostL_get l hj m (by omega)
    · rw [h1]
def lostAt (l : List Job) (j : Nat) : Bool := (lostL l l.length).getD j false
def badAt (l : List Job) (j : Nat) : Bool := lostAt l j || (jover (jobAt l j).state && decide ((jobAt l j).state ≠ 3))
theorem needs_before {l : List Job} (hr : jobsR l = true) {k : Nat} {j : Job} (hj : l[k]? = some j) {n : Int} (hn : n ∈ j.needs) : jobPos l n < k ∧ jobHit l n = true := by
  obtain ⟨_, _, h3, _, h5⟩ := jobs_iff.1 hr
  have := h5 k j hj n hn
  rw [← List.map_take] at this
  obtain ⟨x, hx, rfl⟩ := List.mem_map.1 this
  obtain ⟨i, hi⟩ := List.mem_iff_getElem?.1 hx
  rw [List.getElem?_take] at hi
  split at hi
  · rename_i hik
    have : jobPos l x.id = i := kpos_at (f := Job.id) h3 hi
    rw [this]
    exact ⟨hik, (jobHit_iff h3).2 ⟨x, List.mem_of_getElem? hi, rfl⟩⟩
  · cases hi
theorem lostAt_eq {l : List Job} (hr : jobsR l = true) {k : Nat} {j : Job} (hj : l[k]? = some j) : lostAt l k = (decide (j.state ≤ 1) && !(j.needs.all fun n => !badAt l (jobPos l n))) := by
  have hk := (List.getElem?_eq_some_iff.1 hj).1
  rw [lostAt, lostL_get l (Nat.lt_succ_self k) l.length (by omega), lostL, List.getD_eq_getElem?_getD, List.getElem?_append_right (by rw [lostL_len]; exact Nat.le_refl _), lostL_len, Nat.sub_self, jobAt_get hj]
  simp only [List.getElem?_cons_zero, Option.getD_some]
  congr 1
  rw [List.not_all_eq_any_not]
  have e : ∀ n ∈ j.needs, ((lostL l k).getD (jobPos l n) false || (jover (jobAt l (jobPos l n)).state && decide ((jobAt l (jobPos l n)).state ≠ 3))) = (!!badAt l (jobPos l n)) := by
    intro n hn
    have := (needs_before hr hj hn).1
    rw [Bool.not_not, badAt, lostAt, lostL_get l this l.length (by omega)]
  clear hr hj
  generalize j.needs = ns at e
  induction ns with
  | nil => rfl
  | cons x ns ih => rw [List.any_cons, List.any_cons, e x List.mem_cons_self, ih fun n hn => e n (List.mem_cons_of_mem _ hn)]
def lostIds (l : List Job) (i : Nat) : List Int := ((l.take i).zipIdx.filter fun p => lostAt l p.2).map (·.1.id)
theorem lostIds_all (l : List Job) : jobsR l = true → jobsLost l = lostIds l l.length := by
  intro h
  rw [jobsLost, if_pos h, lostIds, List.take_length]
  rfl
theorem lostIds_step {l : List Job} {i : Nat} {j : Job} (hj : l[i]? = some j) : lostIds l (i + 1) = if lostAt l i then lostIds l i ++ [j.id] else lostIds l i := by
  have hi := (List.getElem?_eq_some_iff.1 hj).1
  unfold lostIds
  rw [List.take_add_one, hj, List.zipIdx_append, List.filter_append, List.map_append]
  have : (l.take i).length = i := by rw [List.length_take]; omega
  simp only [Option.toList_some, List.zipIdx_cons, List.zipIdx_nil, Nat.zero_add, this]
  cases h : lostAt l i <;> simp [h]
theorem lostIds_le (l : List Job) (i : Nat) : (lostIds l i).length ≤ i := by
  unfold lostIds
  rw [List.length_map]
  refine Nat.le_trans (List.length_filter_le _ _) ?_
  rw [List.length_zipIdx, List.length_take]
  omega
def lostRows (l : List Job) (i : Nat) : List (List AV) := (List.range l.length).map fun j => [AV.bool (decide (j < i) && lostAt l j)]
theorem lostRows_zero (l : List Job) : lostRows l 0 = List.replicate l.length [AV.bool false] := by
  apply List.ext_getElem?
  intro j
  by_cases h : j < l.length
  · simp [lostRows, h]
  · rw [List.getElem?_eq_none (by simp [lostRows]; omega), List.getElem?_eq_none (by simp; omega)]
theorem lostRows_get {l : List Job} {i j : Nat} (h : j < l.length) : (lostRows l i)[j]? = some [AV.bool (decide (j < i) && lostAt l j)] := by simp [lostRows, h]
theorem lostRows_set {l : List Job} {i : Nat} (h : lostAt l i = true) : (lostRows l i).set i [AV.bool true] = lostRows l (i + 1) := by
  refine map_range_set (f := fun j => [AV.bool (decide (j < i) && lostAt l j)]) (g := fun j => [AV.bool (decide (j < i + 1) && lostAt l j)]) (by simp [h]) fun j hj => ?_
  have : decide (j < i + 1) = decide (j < i) := by rw [decide_eq_decide]; omega
  simp only [this]
theorem lostRows_same {l : List Job} {i : Nat} (h : lostAt l i = false) : lostRows l (i + 1) = lostRows l i := by
  refine List.map_congr_left fun j _ => ?_
  by_cases e : j = i
  · subst e; simp [h]
  · have : decide (j < i + 1) = decide (j < i) := by rw [decide_eq_decide]; omega
    simp only [this]
theorem lostRows_bel (n : Nat) (l : List Job) (i : Nat) : ∀ r ∈ lostRows l i, AV.bels n r = true := by
  intro r hr
  obtain ⟨j, _, rfl⟩ := List.mem_map.1 hr
  rfl
def insL (x : Job) : List Job → List Job
  | [] => [x]
  | a :: A => if a.spec.prio < x.spec.prio then x :: a :: A else a :: insL x A
theorem insP_insL (j x : Job) : ∀ A : List Job, byPrio.insP j (insL x A) = insL x (byPrio.insP j A)
  | [] => by
    simp only [insL, byPrio.insP]
    by_cases h : x.spec.prio ≤ j.spec.prio
    · rw [if_pos h, if_neg (by omega)]
    · rw [if_neg h, if_pos (by omega)]
  | a :: A => by
    have ih := insP_insL j x A
    by_cases h1 : a.spec.prio < x.spec.prio
    · rw [insL, if_pos h1, byPrio.insP]
      by_cases h2 : a.spec.prio ≤ j.spec.prio
      · rw [byPrio.insP, if_pos h2, insL]
        by_cases h3 : x.spec.prio ≤ j.spec.prio
        · rw [if_pos h3, if_neg (by omega), insL, if_pos h1]
        · rw [if_neg h3, if_pos (by omega)]
      · rw [if_neg (by omega), byPrio.insP, if_neg h2, insL, if_pos h1]
    · rw [insL, if_neg h1, byPrio.insP]
      by_cases h2 : a.spec.prio ≤ j.spec.prio
      · rw [if_pos h2, byPrio.insP, if_pos h2, insL, if_neg (by omega), insL, if_neg h1]
      · rw [if_neg h2, byPrio.insP, if_neg h2, insL, if_neg h1, ih]
theorem byPrio_snoc (x : Job) : ∀ l : List Job, byPrio (l ++ [x]) = insL x (byPrio l)
  | [] => rfl
  | j :: l => by rw [List.cons_append, byPrio, byPrio_snoc x l, insP_insL, byPrio]
theorem insP_mem {j y : Job} : ∀ {l : List Job}, y ∈ byPrio.insP j l ↔ y = j ∨ y ∈ l
  | [] => by simp [byPrio.insP]
  | a :: l => by
    rw [byPrio.insP]
    split
    · simp
    · rw [List.mem_cons, insP_mem, List.mem_cons]
      constructor
      · rintro (h | h | h)
        · exact .inr (.inl h)
        · exact .inl h
        · exact .inr (.inr h)
      · rintro (h | h | h)
        · exact .inr (.inl h)
        · exact .inl h
        · exact .inr (.inr h)
theorem byPrio_mem {y : Job} : ∀ {l : List Job}, y ∈ byPrio l ↔ y ∈ l
  | [] => by simp [byPrio]
  | j :: l => by rw [byPrio, insP_mem, byPrio_mem, List.mem_cons]
theorem insP_len (j : Job) : ∀ l : List Job, (byPrio.insP j l).length = l.length + 1
  | [] => rfl
  | a :: l => by
    rw [byPrio.insP]
    split
    · rfl
    · rw [List.length_cons, insP_len j l]; rfl
theorem byPrio_len : ∀ l : List Job, (byPrio l).length = l.length
  | [] => rfl
  | j :: l => by rw [byPrio, insP_len, byPrio_len l]; rfl
theorem insP_sorted (j : Job) : ∀ {l : List Job}, l.Pairwise (fun a b => b.spec.prio ≤ a.spec.prio) → (byPrio.insP j l).Pairwise (fun a b => b.spec.prio ≤ a.spec.prio)
  | [], _ => List.pairwise_singleton _ _
  | a :: l, h => by
    rw [byPrio.insP]
    rw [List.pairwise_cons] at h
    split
    · rename_i h1
      refine List.pairwise_cons.2 ⟨fun y hy => ?_, List.pairwise_cons.2 h⟩
      rcases List.mem_cons.1 hy with rfl | hy
      · exact h1
      · have := h.1 y hy; omega
    · rename_i h1
      refine List.pairwise_cons.2 ⟨fun y hy => ?_, insP_sorted j h.2⟩
      rcases insP_mem.1 hy with rfl | hy
      · omega
      · exact h.1 y hy
theorem byPrio_sorted : ∀ l : List Job, (byPrio l).Pairwise (fun a b => b.spec.prio ≤ a.spec.prio)
  | [] => List.Pairwise.nil
  | j :: l => by rw [byPrio]; exact insP_sorted j (byPrio_sorted l)
theorem insL_at {x : Job} : ∀ {A : List Job} {j : Nat}, (∀ a ∈ A.take j, x.spec.prio ≤ a.spec.prio) → (∀ a ∈ A.drop j, a.spec.prio < x.spec.prio) → insL x A = A.take j ++ x :: A.drop j
  | [], j, _, _ => by simp [insL]
  | a :: A, 0, _, h2 => by
    rw [insL, if_pos (h2 a (by simp))]; rfl
  | a :: A, j + 1, h1, h2 => by
    have ha := h1 a (by simp)
    rw [insL, if_neg (by omega), insL_at (j := j) (fun b hb => h1 b (by simp [hb])) (fun b hb => h2 b (by simpa using hb))]
    rfl
end Go.Av

namespace Go.Av
open Go.Proofs
set_option maxRecDepth 10000
set_option linter.unusedSimpArgs false
set_option linter.unusedVariables false
set_option maxHeartbeats 0 in
theorem queue_every (F : Nat) [FnI Tryz.prog F] (caps : List AV) (p : Nat → Bool) (l : List Job) (j : Job) (H : Heap) (hso : ∀ n ∈ j.needs, ∀ L' : Heap, AC Tryz.prog F (.int .i64 (jobPos l n : Int) :: caps) (H ++ L') (Ret (.bool (p (jobPos l n))) (H ++ L'))) (hl : l.length ≤ 1000000) (hs : l.Pairwise (fun a b => a.id < b.id)) (hn : j.needs.length ≤ 1000000) :
    AC Tryz.prog 195 [.pl (l.map eJob), .agg (eJob j), .fn (.func F) [] caps] H (Ret (.bool (j.needs.all fun n => p (jobPos l n))) H) := by
  refine AC.body (N := 29) [.tmp 6] Tryz.func195 rfl rfl rfl (Nat.le_of_ble_eq_true rfl) fun B hB => ?_
  repeat (refine aw_seq ?_)
  refine Z2x ?_
  refine Z1y ?_
  repeat (first | refine then_nrm ?_ | refine aw_seq ?_)
  refine Z30 ?_
  refine Z35 ?_
  repeat (first | refine then_nrm ?_ | refine aw_block ?_)
  refine aw_loop (G := Nat) (fun k => k ≤ j.needs.length ∧ ∀ n ∈ j.needs.take k, p (jobPos l n) = true) (fun k => [(0, .pl (l.map eJob)), (2, .fn (.func F) [] caps), (12, .pl (j.needs.map eI)), (13, .int .i64 (j.needs.length : Int)), (14, .int .i64 (k : Int))]) (fun _ => H ++ [⟨0, 13, [eJob j]⟩]) (fun k => j.needs.length - k) 0 ⟨Nat.zero_le _, by simp⟩ (by repeat (first | exact Sub.nil | refine Sub.cons (by first | rfl | (simp [get]; done)) ?_)) (.inl rfl) ?_
  rintro k ⟨hk, hno⟩
  repeat (refine aw_seq ?_)
  refine Z36 ?_
  repeat (first | refine then_nrm ?_ | refine aw_seq ?_)
  refine aw_cond rfl (fun hc => ?_) (fun hc => ?_)
  · have hlt : k < j.needs.length := by simpa using hc
    obtain ⟨n, hn', hnl⟩ := get_in hlt
    have hr := map_get eI hn'
    have hcall := hso n hnl
    clear hc
    repeat (first | refine then_nrm ?_ | refine aw_seq ?_ | refine aw_block ?_ | refine aw_skip ?_)
    refine Z3b ?_
    repeat (first | refine then_nrm ?_ | refine aw_seq ?_)
    refine Z95 ?_
    refine Zdl ?_
    refine Z54 ?_
    repeat (first | refine then_nrm ?_ | refine aw_seq ?_)
    refine Z1e ?_
    refine Z6 ?_
    refine Zj4 ?_
    refine Z2j ?_
    try dsimp only [put]
    repeat (refine then_nrm ?_)
    refine aw_cond rfl (fun hc => ?_) (fun hc => ?_)
    · have hbad : (j.needs.all fun n => p (jobPos l n)) = false := by rw [List.all_eq_false]; exact ⟨n, hnl, by simpa using hc⟩
      repeat (refine aw_seq ?_)
      refine Za ?_
      repeat (first | refine then_nrm ?_ | refine then_ret ?_ | refine blk_ret ?_ | refine aw_ret ?_)
      rw [hbad]
      exact Z7
    · repeat (first | refine then_nrm ?_ | refine blk_nrm ?_ | refine aw_skip ?_)
      refine Z3i ?_
      repeat (refine then_nrm ?_)
      refine ⟨k + 1, by omega, ⟨by omega, ?_⟩, (by repeat (first | exact Sub.nil | refine Sub.cons (by rfl) ?_)), .inl rfl⟩
      rw [take_snoc_get hn']
      intro y hy
      rcases List.mem_append.1 hy with h | h
      · exact hno y h
      · simp only [List.mem_singleton] at h
        subst h
        simpa using hc
  · have : k = j.needs.length := by simp at hc; omega
    subst this
    rw [List.take_length] at hno
    repeat (first | refine then_nrm ?_ | refine then_brk ?_ | refine blk_hit ?_ | refine aw_seq ?_ | refine aw_exit ?_)
    refine Za ?_
    repeat (first | refine then_nrm ?_ | refine aw_ret ?_)
    rw [List.all_eq_true.2 hno]
    exact Z7
set_option maxHeartbeats 0 in
theorem queue_Lost_1 (l : List Job) (i at_ a b li : Nat) (H : Heap) (ha : H[a]? = some ⟨0, 1, [[.sl li 0 0 l.length l.length]]⟩) (hb : H[b]? = some ⟨0, 1, [[.pl (l.map eJob)]]⟩) (hli : H[li]? = some ⟨0, 1, lostRows l i⟩) (hat : at_ < i) (hil : i ≤ l.length) : AC Tryz.prog 194 [.int .i64 (at_ : Int), .pt a 0 0 0, .pt b 0 0 0] H (Ret (.bool (badAt l at_)) H) := by
  have hrow : (lostRows l i)[at_]? = some [.bool (lostAt l at_)] := by rw [lostRows_get (by omega), decide_eq_true hat, Bool.true_and]
  obtain ⟨x, hx, _⟩ := get_in (l := l) (k := at_) (by omega)
  have hr := map_get eJob hx
  refine AC.body (N := 25) [.tmp 4] Tryz.func194 rfl rfl rfl (Nat.le_of_ble_eq_true rfl) fun B hB => ?_
  repeat (refine aw_seq ?_)
  refine Za ?_
  rw [badAt, jobAt_get hx]
  clear hx
  repeat (first | refine then_nrm ?_ | refine aw_seq ?_)
  refine aw_out 4 (.bool (lostAt l at_ || (jover x.state && decide (x.state ≠ 3)))) ?_ ?_
  · refine ao1 (by decide) (w_load1 (v := .sl li 0 0 l.length l.length) rfl (lkF ha) rfl rfl rfl) ?_
    refine Z6 ?_
    refine ao1 (by decide) (w_indexAddrN rfl (lkF hli) rfl rfl rfl (by omega)) ?_
    refine ao1 (by decide) (w_load1 (v := .bool _) rfl (lkF hli) rfl (zadd hrow) rfl) ?_
    refine Zc ?_
    refine ao_split rfl rfl (fun hg4 => ?_) (fun hg4 => ?_)
    · refine Z29 ?_
      refine Z4p ?_
      refine Zj5 ?_
      refine Z28 ?_
      refine Zh ?_
      exact Zj6
    · refine Zj7 ?_
      refine Zbw ?_
      refine Zj8 ?_
      refine Zj9 ?_
      refine Z2f ?_
      refine ao_split rfl rfl (fun hg11 => ?_) (fun hg11 => ?_)
      · refine Zj7 ?_
        refine Zbw ?_
        refine Zj8 ?_
        refine Zjb ?_
        refine Zn ?_
        exact ao_nil (Out.mk (by (refine congrArg AV.bool ?_; (clear hB hrow hr; grind))) (by repeat (first | exact SubX.refl _ _ | refine SubX.at ?_ | refine SubX.put rfl ?_)))
      · refine Zjc ?_
        refine Zn ?_
        exact Zj6
  repeat (first | refine then_nrm ?_ | refine aw_ret ?_)
  exact Z7
theorem queue_Lost_2 (l : List Job) (i at_ a b li c : Nat) (H : Heap) (ha : H[a]? = some ⟨0, 1, [[.sl li 0 0 l.length l.length]]⟩) (hb : H[b]? = some ⟨0, 1, [[.pl (l.map eJob)]]⟩) (hli : H[li]? = some ⟨0, 1, lostRows l i⟩) (hcc : H[c]? = some ⟨0, 1, [[.fn (.func 194) [] [.pt a 0 0 0, .pt b 0 0 0]]]⟩) (hat : at_ < i) (hil : i ≤ l.length) : AC Tryz.prog 196 [.int .i64 (at_ : Int), .pt c 0 0 0] H (Ret (.bool (!badAt l at_)) H) := by
  refine AC.body (N := 8) [.tmp 3] Tryz.func196 rfl rfl rfl (Nat.le_of_ble_eq_true rfl) fun B hB => ?_
  repeat (refine aw_seq ?_)
  refine Za ?_
  repeat (first | refine then_nrm ?_ | refine aw_seq ?_)
  refine aw_region ?_
  refine ao1 (by decide) (w_load1 (v := .fn (.func 194) [] [.pt a 0 0 0, .pt b 0 0 0]) rfl (lkF hcc) rfl rfl rfl) ?_
  refine Z6 ?_
  refine ao2 (by rintro _ ⟨⟩; decide) (V2.callv (queue_Lost_1 l i at_ a b li _ (lkF ha) (lkF hb) (lkF hli) hat hil) rfl rfl) ?_
  refine Z11 ?_
  refine Z9o ?_
  repeat (first | refine then_nrm ?_ | refine aw_ret ?_)
  exact Z7
set_option maxHeartbeats 0 in
theorem queue_Lost (l : List Job) (H : Heap) (hw : JW l) : AC Tryz.prog 173 [.pl (l.map eJob)] H (Ret (.pl ((jobsLost l).map eI)) H) := by
  have hw1 := hw.1
  have hml : (l.map eJob).length = l.length := by simp
  refine AC.body (N := 42) [.tmp 2] Tryz.func173 rfl rfl rfl (Nat.le_of_ble_eq_true rfl) fun B hB => ?_
  repeat (refine aw_seq ?_)
  refine aw_region ?_
  refine Zjd ?_
  refine Z73 ?_
  refine Z1x ?_
  repeat (first | refine then_nrm ?_ | refine aw_seq ?_)
  refine aw_region ?_
  refine Z2y ?_
  refine Zfx ?_
  refine Z2j ?_
  repeat (refine then_nrm ?_)
  refine aw_cond rfl (fun hc => ?_) (fun hc => ?_)
  · have hno : jobsR l = false := by simpa only [Bool.not_eq_true'] using hc
    rw [show jobsLost l = [] by rw [jobsLost, hno]; rfl]
    repeat (refine aw_seq ?_)
    refine Z2p ?_
    repeat (refine then_nrm ?_)
    refine aw_nslpl 2 rfl ?_
    exact Z7g
  have hyes : jobsR l = true := by simpa only [Bool.not_eq_false'] using hc
  have hs := jobsR_sorted hyes
  clear hc
  rw [lostIds_all l hyes]
  repeat (first | refine then_nrm ?_ | refine aw_seq ?_ | refine aw_skip ?_)
  refine aw_region ?_
  refine Z2y ?_
  refine Z31 ?_
  refine ao2 (by rintro _ ⟨⟩; decide) (o_makeSliceL (n := l.length) (c := l.length) (bytes := 1) rfl (by decide) (congrArg (fun k : Nat => AV.int .i64 (k : Int)) hml) (congrArg (fun k : Nat => AV.int .i64 (k : Int)) hml) (Nat.le_refl _) (by omega) (by omega) rfl) ?_
  refine Zje ?_
  refine ao2 (by rintro _ ⟨⟩) (w_storeP (sz := 1) (v := .sl _ _ _ _ _) (r' := [_]) rfl rfl rfl rfl rfl rfl rfl rfl (Nat.le_of_ble_eq_true rfl) rfl) ?_
  refine Z9a ?_
  repeat (first | refine then_nrm ?_ | refine aw_seq ?_)
  refine Z2p ?_
  repeat (first | refine then_nrm ?_ | refine aw_seq ?_)
  refine aw_ghostL (k := 3) 4 1 rfl (by decide) rfl ?_
  refine aw_region ?_
  refine Z2y ?_
  refine Z34 ?_
  refine Z75 ?_
  repeat (first | refine then_nrm ?_ | refine aw_block ?_)
  refine aw_loop (G := Nat) (fun i => i ≤ l.length) (fun i => [(1, .pt (Lid H.length 0) 0 0 0), (3, .pt (Lid H.length 2) 0 0 0), (4, .sl (Lid H.length 3) (lostIds l i).length 0 (lostIds l i).length (lostIds l i).length), (14, .pl (l.map eJob)), (15, .int .i64 (l.length : Int)), (16, .int .i64 (i : Int))]) (fun i => H ++ [⟨0, 1, [[.pl (l.map eJob)]]⟩, ⟨0, 1, lostRows l i⟩, ⟨0, 1, [[.sl (Lid H.length 1) 0 0 l.length l.length]]⟩, ⟨(lostIds l i).length, 1, (lostIds l i).map eI⟩]) (fun i => l.length - i) 0 (Nat.zero_le _) (by repeat (first | exact Sub.nil | refine Sub.cons (by first | rfl | (simp [get]; done)) ?_)) (.inl (by rw [lostRows_zero]; rfl)) ?_
  intro i hi
  repeat (refine aw_seq ?_)
  refine Z36 ?_
  repeat (first | refine then_nrm ?_ | refine aw_seq ?_)
  refine aw_cond rfl (fun hc => ?_) (fun hc => ?_)
  · have hlt : i < l.length := by simpa using hc
    obtain ⟨j, hj, hjl⟩ := get_in hlt
    have hr := map_get eJob hj
    have hjn := hw.2 j hjl
    have hla := lostAt_eq hyes hj
    have hst := lostIds_step hj
    have hle := lostIds_le l i
    have hrow : (lostRows l i)[0 + i]? = some [.bool (decide (i < i) && lostAt l i)] := by rw [Nat.zero_add]; exact lostRows_get hlt
    have hbf := fun n hn => (needs_before hyes hj (n := n) hn).1
    clear hc
    repeat (first | refine then_nrm ?_ | refine aw_seq ?_ | refine aw_block ?_ | refine aw_skip ?_)
    refine Z7o ?_
    refine Z4g ?_
    refine Z1 ?_
    refine Z4u ?_
    refine Z9a ?_
    repeat (first | refine then_nrm ?_ | refine aw_seq ?_)
    refine aw_region ?_
    refine ao1 (by decide) (o_makeFunc (vs := []) (us := [_, _]) rfl rfl) ?_
    refine Zje ?_
    refine ao2 (by rintro _ ⟨⟩) (w_storeP (sz := 1) (v := .fn _ _ _) (r' := [_]) rfl rfl rfl rfl rfl rfl rfl rfl (Nat.le_of_ble_eq_true rfl) rfl) ?_
    refine Z9a ?_
    repeat (first | refine then_nrm ?_ | refine aw_seq ?_)
    refine aw_out 31 (.bool (lostAt l i)) ?_ ?_
    · refine Z20 ?_
      refine Zd ?_
      refine ao_split rfl rfl (fun hg3 => ?_) (fun hg3 => ?_)
      · refine Z5j ?_
        refine Z41 ?_
        refine Zjf ?_
        refine ao_y rfl rfl (by decide) (V2.call (queue_every 196 [.pt (Lid H.length 5) 0 0 0] (fun a => !badAt l a) l j _ (fun n hn L' => queue_Lost_2 l i (jobPos l n) (Lid H.length 2) (Lid H.length 0) (Lid H.length 1) (Lid H.length 5) _ (lkF (lk rfl rfl)) (lkF (lk rfl rfl)) (lkF (lk rfl rfl)) (lkF (lk rfl rfl)) (hbf n hn) hi) hw1 hs hjn) rfl) ?_
        refine Z1f ?_
        refine Zg ?_
        exact ao_nil (Out.mk (by (refine congrArg AV.bool ?_; (rw [hla]; clear hB hbf hst hr hrow; (simp_all; done)))) (by repeat (first | exact SubX.refl _ _ | refine SubX.at ?_ | refine SubX.put rfl ?_)))
      · refine Z9l ?_
        refine Zm ?_
        exact ao_nil (Out.mk (by (refine congrArg AV.bool ?_; (rw [hla]; clear hB hbf hst hr hrow; (simp_all; omega)))) (by repeat (first | exact SubX.refl _ _ | refine SubX.at ?_ | refine SubX.put rfl ?_)))
    repeat (refine then_nrm ?_)
    refine aw_cond rfl (fun hc => ?_) (fun hc => ?_)
    · rw [if_pos hc] at hst
      have hset := lostRows_set hc
      repeat (refine aw_seq ?_)
      refine aw_region ?_
      refine ao1 (by decide) (w_load1 (v := .sl (Lid H.length 1) 0 0 l.length l.length) rfl (lk rfl rfl) rfl rfl rfl) ?_
      refine Z6 ?_
      refine Z97 ?_
      refine Zhi ?_
      refine ao_nil ?_
      refine Zgh ?_
      rw [Nat.zero_add, hset]
      repeat (refine then_nrm ?_)
      refine Z78 ?_
      refine Z20 ?_
      refine Z7a ?_
      refine Z7e ?_
      rw [show ((lostIds l i).map eI).take (lostIds l i).length = (lostIds l i).map eI from List.take_of_length_le (by simp)]
      repeat (first | refine then_nrm ?_ | refine blk_nrm ?_)
      refine Z3i ?_
      repeat (refine then_nrm ?_)
      refine ⟨i + 1, by omega, by omega, by rw [hst, List.length_append]; exact (by repeat (first | exact Sub.nil | refine Sub.cons (by rfl) ?_)), ?_⟩
      rw [hst, List.length_append]
      refine Fit.loc hB (by rw [List.map_append]; rfl) (by repeat (first | exact EBel.nil | refine EBel.cons (by first | rfl | (simp [AV.bel, AV.bels, Lid]; done)) ?_)) ?_
      intro o ho r hr
      simp only [List.mem_cons, List.not_mem_nil, or_false] at ho
      rcases ho with rfl | rfl | rfl | rfl
      · simp only [List.mem_singleton] at hr; subst hr; rfl
      · exact lostRows_bel _ _ _ r hr
      · simp only [List.mem_singleton] at hr; subst hr; simp [AV.bels, AV.bel, Lid]
      · exact ints_bel _ _ r hr
    · rw [if_neg (by rw [hc]; decide)] at hst
      repeat (first | refine then_nrm ?_ | refine blk_nrm ?_ | refine aw_skip ?_)
      refine Z3i ?_
      repeat (refine then_nrm ?_)
      refine ⟨i + 1, by omega, by omega, by rw [hst]; exact (by repeat (first | exact Sub.nil | refine Sub.cons (by rfl) ?_)), ?_⟩
      rw [hst, lostRows_same hc]
      refine Fit.loc hB rfl (by repeat (first | exact EBel.nil | refine EBel.cons (by first | rfl | (simp [AV.bel, AV.bels, Lid]; done)) ?_)) ?_
      intro o ho r hr
      simp only [List.mem_cons, List.not_mem_nil, or_false] at ho
      rcases ho with rfl | rfl | rfl | rfl
      · simp only [List.mem_singleton] at hr; subst hr; rfl
      · exact lostRows_bel _ _ _ r hr
      · simp only [List.mem_singleton] at hr; subst hr; simp [AV.bels, AV.bel, Lid]
      · exact ints_bel _ _ r hr
  · have : i = l.length := by simp at hc; omega
    subst this
    repeat (first | refine then_nrm ?_ | refine then_brk ?_ | refine blk_hit ?_ | refine aw_seq ?_ | refine aw_exit ?_)
    refine Z7f ?_
    repeat (refine then_nrm ?_)
    refine aw_freezeL (ys := (lostIds l l.length).map eI) 2 rfl rfl rfl rfl (by rw [List.drop_zero, List.take_of_length_le (by simp)]) (by simp) (ints_bel 0 _) ?_
    exact Z7g
end Go.Av

namespace Go.Av
open Go.Proofs
set_option maxRecDepth 10000
set_option linter.unusedSimpArgs false
set_option linter.unusedVariables false
theorem queue_Ready_2 (a b : Job) (H : Heap) : AC Tryz.prog 200 [.agg (eJob a), .agg (eJob b)] H (Ret (.int .i64 (cmpI b.spec.prio a.spec.prio)) H) := by
  refine AC.body (N := 12) [.tmp 4] Tryz.func200 rfl rfl rfl (Nat.le_of_ble_eq_true rfl) fun B hB => ?_
  repeat (refine aw_seq ?_)
  refine Z2x ?_
  refine Z2w ?_
  refine Z4i ?_
  repeat (first | refine then_nrm ?_ | refine aw_seq ?_)
  refine aw_region ?_
  refine Z1z ?_
  refine Z20 ?_
  refine Z1z ?_
  refine Z20 ?_
  refine Zbo ?_
  refine Z2m ?_
  repeat (first | refine then_nrm ?_ | refine aw_ret ?_)
  exact Z7
theorem cmpI_neg (a b : Int) : decide (cmpI a b < 0) = decide (a < b) := by
  unfold cmpI
  rw [decide_eq_decide]
  split
  · simp_all
  · split
    · simp; omega
    · simp; omega
def midJ (l : List Job) (i j : Nat) (x : Job) : List Job := ((byPrio (l.take i)).take j ++ x :: (byPrio (l.take i)).drop j) ++ l.drop (i + 1)
theorem mid_len {l : List Job} {i j : Nat} {x : Job} (hi : i < l.length) (hj : j ≤ i) : (midJ l i j x).length = l.length := by
  unfold midJ
  simp [byPrio_len]
  omega
theorem mid_here {l : List Job} {i j : Nat} {x : Job} (hi : i < l.length) (hj : j ≤ i) : (midJ l i j x)[j]? = some x := by
  unfold midJ
  have h1 : ((byPrio (l.take i)).take j).length = j := by rw [List.length_take, byPrio_len, List.length_take]; omega
  rw [List.append_assoc, List.getElem?_append_right (by omega), h1, Nat.sub_self]
  rfl
theorem mid_prev {l : List Job} {i j : Nat} {x y : Job} (hi : i < l.length) (hj : j < i) (hy : (byPrio (l.take i))[j]? = some y) : (midJ l i (j + 1) x)[j]? = some y := by
  unfold midJ
  rw [List.append_assoc, List.getElem?_append_left (by rw [List.length_take, byPrio_len, List.length_take]; omega), List.getElem?_take, if_pos (by omega)]
  exact hy
theorem mid_swap {l : List Job} {i j : Nat} {x y : Job} (hi : i < l.length) (hj : j < i) (hy : (byPrio (l.take i))[j]? = some y) : ((midJ l i (j + 1) x).set (j + 1) y).set j x = midJ l i j x := by
  have hA : (byPrio (l.take i)).length = i := by rw [byPrio_len, List.length_take]; omega
  unfold midJ
  generalize byPrio (l.take i) = A at hy hA ⊢
  have h1 : A.take (j + 1) = A.take j ++ [y] := take_snoc_get hy
  have h2 : A.drop j = y :: A.drop (j + 1) := by
    obtain ⟨hl, he⟩ := List.getElem?_eq_some_iff.1 hy
    rw [List.drop_eq_getElem_cons hl, he]
  have l1 : (A.take j).length = j := by rw [List.length_take]; omega
  rw [h1, h2]
  simp only [List.append_assoc, List.cons_append, List.nil_append]
  rw [List.set_append_right _ _ (by omega), l1, show j + 1 - j = 1 by omega, List.set_append_right _ _ (by omega), l1, Nat.sub_self]
  rfl
theorem mid_start {l : List Job} {i : Nat} {x : Job} (hx : l[i]? = some x) : midJ l i i x = byPrio (l.take i) ++ l.drop i := by
  obtain ⟨hl, he⟩ := List.getElem?_eq_some_iff.1 hx
  have hA : (byPrio (l.take i)).length = i := by rw [byPrio_len, List.length_take]; omega
  unfold midJ
  rw [List.take_of_length_le (by omega), List.drop_of_length_le (by omega), List.drop_eq_getElem_cons hl, he, List.append_assoc]
  rfl
theorem mid_end {l : List Job} {i j : Nat} {x : Job} (hx : l[i]? = some x) (hj : j ≤ i) (h1 : ∀ a ∈ (byPrio (l.take i)).drop j, a.spec.prio < x.spec.prio) (h2 : j = 0 ∨ ∃ y, (byPrio (l.take i))[j - 1]? = some y ∧ ¬ y.spec.prio < x.spec.prio) : midJ l i j x = byPrio (l.take (i + 1)) ++ l.drop (i + 1) := by
  have hs := byPrio_sorted (l.take i)
  rw [take_snoc_get hx, byPrio_snoc]
  unfold midJ
  rw [insL_at (j := j) ?_ h1]
  intro a ha
  rcases h2 with rfl | ⟨y, hy, hyx⟩
  · simp at ha
  · obtain ⟨k, hk⟩ := List.mem_iff_getElem?.1 ha
    rw [List.getElem?_take] at hk
    split at hk
    · rename_i hkj
      obtain ⟨k1, k2⟩ := List.getElem?_eq_some_iff.1 hk
      obtain ⟨y1, y2⟩ := List.getElem?_eq_some_iff.1 hy
      rcases Nat.lt_or_eq_of_le (show k ≤ j - 1 by omega) with h | h
      · have := List.pairwise_iff_getElem.1 hs k (j - 1) k1 y1 h
        rw [k2, y2] at this
        omega
      · subst h
        rw [hk] at hy
        cases hy
        omega
    · cases hk
theorem sort_zero (l : List Job) : byPrio (l.take 1) ++ l.drop 1 = l := by cases l <;> rfl
set_option maxHeartbeats 0 in
theorem insort (l : List Job) (id g : Nat) (H : Heap) (hid : H[id]? = some ⟨g, 13, l.map eJob⟩) (hl : l.length ≤ 1000000) : AC Tryz.prog 224 [.sl id g 0 l.length l.length, .int .i64 0, .int .i64 (l.length : Int), .fn (.func 200) [] []] H (Ret (.tup []) (H.set id ⟨g, 13, (byPrio l).map eJob⟩)) := by
  have hidl : id < H.length := (List.getElem?_eq_some_iff.1 hid).1
  refine AC.body (N := 53) [] Tryz.func224 rfl rfl rfl (Nat.le_of_ble_eq_true rfl) fun B hB => ?_
  repeat (refine aw_seq ?_)
  refine Z5g ?_
  repeat (first | refine then_nrm ?_ | refine aw_block ?_)
  refine aw_loop (G := Nat) (fun i => 1 ≤ i ∧ (i ≤ l.length ∨ i = 1)) (fun i => [(0, .sl id g 0 l.length l.length), (1, .int .i64 0), (2, .int .i64 (l.length : Int)), (3, .fn (.func 200) [] []), (8, .int .i64 (i : Int))]) (fun i => H.set id ⟨g, 13, (byPrio (l.take i) ++ l.drop i).map eJob⟩ ++ []) (fun i => l.length - i) 1 ⟨Nat.le_refl _, .inr rfl⟩ (by repeat (first | exact Sub.nil | refine Sub.cons (by rfl) ?_)) (.inl (by rw [sort_zero, set_same hid])) ?_
  rintro i ⟨hi1, hi⟩
  repeat (refine aw_seq ?_)
  refine Z1o ?_
  refine Z14 ?_
  repeat (refine then_nrm ?_)
  refine aw_cond rfl (fun hc => ?_) (fun hc => ?_)
  · have hlt : i < l.length := by simp at hc; omega
    obtain ⟨x, hx, hxl⟩ := get_in hlt
    have hA : (byPrio (l.take i)).length = i := by rw [byPrio_len, List.length_take]; omega
    clear hc
    repeat (first | refine then_nrm ?_ | refine aw_seq ?_ | refine aw_block ?_ | refine aw_skip ?_)
    refine Z13 ?_
    repeat (first | refine then_nrm ?_ | refine aw_block ?_)
    refine aw_loop (G := Nat) (fun j => j ≤ i ∧ ∀ a ∈ (byPrio (l.take i)).drop j, a.spec.prio < x.spec.prio) (fun j => [(0, .sl id g 0 l.length l.length), (1, .int .i64 0), (2, .int .i64 (l.length : Int)), (3, .fn (.func 200) [] []), (8, .int .i64 (i : Int)), (9, .int .i64 (j : Int))]) (fun j => H.set id ⟨g, 13, (midJ l i j x).map eJob⟩ ++ []) (fun j => j) i ⟨Nat.le_refl _, fun a ha => by rw [List.drop_of_length_le (by omega)] at ha; cases ha⟩ (by repeat (first | exact Sub.nil | refine Sub.cons (by rfl) ?_)) (.inl (by rw [mid_start hx])) ?_
    rintro j ⟨hj, hbig⟩
    have hM : (H.set id ⟨g, 13, (midJ l i j x).map eJob⟩)[id]? = some ⟨g, 13, (midJ l i j x).map eJob⟩ := List.getElem?_set_self hidl
    have hrx := map_get eJob (mid_here (x := x) hlt hj)
    by_cases h0 : j = 0
    · subst h0
      repeat (refine aw_seq ?_)
      refine aw_of_out 34 (.bool false) ?_ ?_
      · refine Z15 ?_
        refine Z5y ?_
        refine Z17 ?_
        refine Zjg ?_
        refine Z67 ?_
        refine aq_split (g := 21) rfl (fun hg3 => ?_) (fun hg3 => ?_)
        · exfalso; simp at hg3
        · refine Zic ?_
          refine Zid ?_
          refine Zie ?_
          refine Zbd ?_
          refine Zbe ?_
          refine Zbf ?_
          refine Zbg ?_
          refine Zbh ?_
          refine Zbi ?_
          refine Zbj ?_
          refine Zbk ?_
          refine Zbl ?_
          refine Zjh ?_
          exact Zji
      repeat (refine then_nrm ?_)
      refine aw_cond rfl (fun hc => ?_) (fun hc => ?_)
      · cases hc
      repeat (first | refine then_nrm ?_ | refine blk_nrm ?_ | refine then_brk ?_ | refine blk_hit ?_ | refine aw_exit ?_)
      refine Z5g ?_
      repeat (refine then_nrm ?_)
      exact ⟨i + 1, by omega, ⟨by omega, .inl (by omega)⟩, (by repeat (first | exact Sub.nil | refine Sub.cons (by rfl) ?_)), .inl (by rw [mid_end hx hj hbig (.inl rfl)])⟩
    · obtain ⟨j, rfl⟩ : ∃ k, j = k + 1 := ⟨j - 1, by omega⟩
      obtain ⟨y, hy, hyl⟩ := get_in (l := byPrio (l.take i)) (k := j) (by omega)
      have hry := map_get eJob (mid_prev (x := x) hlt (by omega) hy)
      repeat (refine aw_seq ?_)
      refine aw_of_out 34 (.bool (decide (y.spec.prio < x.spec.prio))) ?_ ?_
      · refine Zjj ?_
        refine Zjk ?_
        refine Z5y ?_
        refine Z17 ?_
        refine Zjg ?_
        refine Z67 ?_
        refine aq_split (g := 21) rfl (fun hg3 => ?_) (fun hg3 => ?_)
        · refine aqy0 (g := 21) 4 rfl (by decide +kernel) (by decide) rfl rfl (fun _ => o_move (v := .fn _ _ _) rfl) ?_
          refine aqy0 (g := 21) 5 rfl (by decide +kernel) (by decide) rfl rfl (fun _ => o_move (v := .sl _ _ _ _ _) rfl) ?_
          refine aqy0 (g := 21) 6 rfl (by decide +kernel) (by decide) rfl rfl (fun _ => o_move (v := .int _ _) rfl) ?_
          refine aqyp (g := 21) 7 rfl (by decide +kernel) (by decide) rfl rfl (fun G => w_indexAddrN rfl (lkF hM) rfl rfl rfl (by omega)) ?_
          refine aqyp (g := 21) 8 rfl (by decide +kernel) (by decide) rfl rfl (fun G => w_loadR rfl (lkF hM) rfl (zadd hrx) rfl) ?_
          refine aqy0 (g := 21) 9 rfl (by decide +kernel) (by decide) rfl rfl (fun _ => o_move (v := .sl _ _ _ _ _) rfl) ?_
          refine Zb5 ?_
          refine aqy0 (g := 21) 11 rfl (by decide +kernel) (by decide) rfl rfl (fun _ => o_sub (r := (j : Int)) rfl rfl (by rw [show ((j + 1 : Nat) : Int) - 1 = (j : Int) by omega]; exact wrap64_ok (by omega) (by omega))) ?_
          refine aqyp (g := 21) 12 rfl (by decide +kernel) (by decide) rfl rfl (fun G => w_indexAddrN rfl (lkF hM) rfl rfl rfl (by omega)) ?_
          refine aqyp (g := 21) 13 rfl (by decide +kernel) (by decide) rfl rfl (fun G => w_loadR rfl (lkF hM) rfl (zadd hry) rfl) ?_
          refine aqy02 (g := 21) 14 rfl (by decide +kernel) (by decide) rfl rfl (fun _ => V2.callv (queue_Ready_2 x y _) rfl rfl) ?_
          refine aqy0 (g := 21) 15 rfl (by decide +kernel) (by decide) rfl rfl (fun _ => o_lt rfl rfl) ?_
          refine aq0 16 rfl (by decide +kernel) (by decide) (fun _ => o_pick_t (v := .bool _) rfl rfl) ?_
          exact aa_done (by decide +kernel) (by exact fun _ => ⟨_, rfl⟩) (Out.mk (by (refine congrArg AV.bool ?_; ((rw [cmpI_neg]; try rfl)))) (by repeat (first | exact SubX.refl _ _ | refine SubX.at ?_ | refine SubX.put rfl ?_)))
        · refine Zic ?_
          refine Zid ?_
          refine Zie ?_
          refine Zbd ?_
          refine Zbe ?_
          refine Zbf ?_
          refine Zbg ?_
          refine Zbh ?_
          refine Zbi ?_
          refine Zbj ?_
          refine Zbk ?_
          refine Zbl ?_
          refine Zjh ?_
          exact aa_done (by decide +kernel) (by exact fun _ => ⟨_, rfl⟩) (Out.mk (by (refine congrArg AV.bool ?_; ((exfalso; simp at hg3; done)))) (by repeat (first | exact SubX.refl _ _ | refine SubX.at ?_ | refine SubX.put rfl ?_)))
      repeat (refine then_nrm ?_)
      refine aw_cond rfl (fun hc => ?_) (fun hc => ?_)
      · have hyx : y.spec.prio < x.spec.prio := by simpa using hc
        clear hc
        have hM2 : ((H.set id ⟨g, 13, (midJ l i (j + 1) x).map eJob⟩).set id ⟨g, 13, ((midJ l i (j + 1) x).map eJob).set (0 + (j + 1)) (eJob y)⟩)[id]? = some ⟨g, 13, ((midJ l i (j + 1) x).map eJob).set (0 + (j + 1)) (eJob y)⟩ := List.getElem?_set_self (by simpa using hidl)
        have hlm := mid_len (x := x) hlt hj
        have hry2 : (((midJ l i (j + 1) x).map eJob).set (0 + (j + 1)) (eJob y))[0 + j]? = some (eJob y) := by rw [Nat.zero_add, Nat.zero_add, List.getElem?_set_ne (by omega)]; exact hry
        repeat (first | refine then_nrm ?_ | refine aw_seq ?_ | refine aw_block ?_ | refine aw_skip ?_)
        refine aw_drawP mixed (some 15) 0 ?_
        refine Zjk ?_
        refine Z9r ?_
        refine Z9s ?_
        refine Z9t ?_
        refine aq0 4 rfl (by decide +kernel) (by decide) (fun _ => o_sub (r := (j : Int)) rfl rfl (by rw [show ((j + 1 : Nat) : Int) - 1 = (j : Int) by omega]; exact wrap64_ok (by omega) (by omega))) ?_
        refine Zjl ?_
        refine Zjm ?_
        refine aq0 7 rfl (by decide +kernel) (by decide) (fun _ => o_sub (r := (j : Int)) rfl rfl (by rw [show ((j + 1 : Nat) : Int) - 1 = (j : Int) by omega]; exact wrap64_ok (by omega) (by omega))) ?_
        refine aqp 8 rfl (by decide +kernel) (by decide) (fun G => w_indexAddrN rfl (lkF hM) rfl rfl rfl (by omega)) ?_
        refine aqp 9 rfl (by decide +kernel) (by decide) (fun G => w_loadR rfl (lkF hM) rfl (zadd hry) rfl) ?_
        refine aq0 10 rfl (by decide +kernel) (by decide) (fun _ => o_move (v := .sl _ _ _ _ _) rfl) ?_
        refine Zjn ?_
        refine aqpz [13, 12] 12 rfl (by decide +kernel) (by decide) (fun G => w_indexAddrN rfl (lkF hM) rfl rfl rfl (by omega)) ?_
        refine aqp 13 rfl (by decide +kernel) (by decide) (fun G => w_loadR rfl (lkF hM) rfl (zadd hrx) rfl) ?_
        refine aqp 14 rfl (by decide +kernel) (by decide) (fun G => w_indexAddrN rfl (lkF hM) rfl rfl rfl (by omega)) ?_
        refine aqs 15 rfl (by decide +kernel) (by exact fun _ => ⟨_, rfl⟩) (by rintro _ ⟨⟩) (w_storeFP (sz := 13) (v := .agg (eJob y)) (r' := eJob y) rfl hM rfl (zadd hrx) rfl rfl rfl (Nat.le_of_ble_eq_true rfl) rfl) ?_
        refine aqs 16 rfl (by decide +kernel) (by exact yet_done (by decide +kernel)) (by rintro _ ⟨⟩; decide) (V1.toV2 (w_indexAddrN rfl (lkF hM2) rfl rfl rfl (by omega))) ?_
        refine aqs 17 rfl (by decide +kernel) (by exact yet_done (by decide +kernel)) (by rintro _ ⟨⟩) (w_storeFP (sz := 13) (v := .agg (eJob x)) (r' := eJob x) rfl hM2 rfl hry2 rfl rfl rfl (Nat.le_of_ble_eq_true rfl) rfl) ?_
        refine Z5z ?_
        try dsimp only [put]
        repeat (first | refine then_nrm ?_ | refine blk_nrm ?_)
        refine Zv ?_
        refine ao1 (by decide) (o_sub (r := (j : Int)) rfl rfl (by rw [show ((j + 1 : Nat) : Int) - 1 = (j : Int) by omega]; exact wrap64_ok (by omega) (by omega))) ?_
        refine Z2 ?_
        repeat (refine then_nrm ?_)
        refine ⟨j, by omega, ⟨by omega, fun a ha => ?_⟩, (by repeat (first | exact Sub.nil | refine Sub.cons (by rfl) ?_)), .inl ?_⟩
        · obtain ⟨h1, h2⟩ := List.getElem?_eq_some_iff.1 hy
          rw [List.drop_eq_getElem_cons h1, h2] at ha
          rcases List.mem_cons.1 ha with rfl | ha
          · exact hyx
          · exact hbig a ha
        · rw [Nat.zero_add, Nat.zero_add, ← List.map_set, ← List.map_set, mid_swap hlt (by omega) hy, List.set_set, List.set_set]
      · have hyx : ¬ y.spec.prio < x.spec.prio := by simpa using hc
        clear hc
        repeat (first | refine then_nrm ?_ | refine blk_nrm ?_ | refine then_brk ?_ | refine blk_hit ?_ | refine aw_exit ?_)
        refine Z5g ?_
        repeat (refine then_nrm ?_)
        exact ⟨i + 1, by omega, ⟨by omega, .inl (by omega)⟩, (by repeat (first | exact Sub.nil | refine Sub.cons (by rfl) ?_)), .inl (by rw [mid_end hx hj hbig (.inr ⟨y, by rw [Nat.add_sub_cancel]; exact hy, hyx⟩)])⟩
  · have hge : l.length ≤ i := by simp at hc; omega
    rw [show byPrio (l.take i) ++ l.drop i = byPrio l by rw [List.take_of_length_le hge, List.drop_of_length_le hge, List.append_nil]]
    repeat (first | refine then_brk ?_ | refine blk_hit ?_ | refine aw_exit ?_)
    exact e_doneF hB .nil rfl rfl (by simp) (hB.heap.set _ ⟨g, 13, (byPrio l).map eJob⟩ (jobs_bel _ _))
theorem e_doneG {P : Program} {env : Env} {H : Heap} {B : Base} {rs : List ResultVar} {vs : List AV} {v : AV} {args : List AV} {M : Heap} (hB : Begun B H args) (h : ResVs P env M rs vs) (hv : tupv vs = v) (hb : v.bel H.length = true) (hl : M.length = H.length) (hM : HBel H.length M) : Ends P B rs (Ret v M) .ret env M := by
  have := e_doneF (L := []) (M := M) (P := P) (env := env) (rs := rs) (vs := vs) hB (by rw [List.append_nil]; exact h) hv hb hl hM
  rwa [List.append_nil] at this
structure U1 where
set_option maxHeartbeats 0 in
theorem stableJ (l : List Job) (id g : Nat) (H : Heap) (hid : H[id]? = some ⟨g, 13, l.map eJob⟩) (hl : l.length < 20) : AC Tryz.prog 217 [.sl id g 0 l.length l.length, .int .i64 (l.length : Int), .fn (.func 200) [] []] H (Ret (.tup []) (H.set id ⟨g, 13, (byPrio l).map eJob⟩)) := by
  refine AC.body (N := 63) [] Tryz.func217 rfl rfl rfl (Nat.le_of_ble_eq_true rfl) fun B hB => ?_
  repeat (refine aw_seq ?_)
  refine Z3 ?_
  repeat (first | refine then_nrm ?_ | refine aw_seq ?_)
  refine Zv ?_
  refine Zz ?_
  repeat (first | refine then_nrm ?_ | refine aw_seq ?_ | refine aw_block ?_)
  refine aw_loop (G := U1) (fun _ => True) (fun _ => [(0, .sl id g 0 l.length l.length), (1, .int .i64 (l.length : Int)), (2, .fn (.func 200) [] []), (6, .int .i64 20), (7, .int .i64 0), (8, .int .i64 20)]) (fun _ => H ++ []) (fun _ => 0) ⟨⟩ trivial (by repeat (first | exact Sub.nil | refine Sub.cons (by rfl) ?_)) (.inl rfl) ?_
  rintro ⟨⟩ _
  repeat (refine aw_seq ?_)
  refine Z1o ?_
  refine Zb ?_
  refine ao_nil ?_
  repeat (refine then_nrm ?_)
  refine aw_cond rfl (fun hc => ?_) (fun hc => ?_)
  · exfalso; simp at hc; omega
  clear hc
  repeat (first | refine then_nrm ?_ | refine then_brk ?_ | refine blk_hit ?_ | refine aw_seq ?_ | refine aw_exit ?_)
  refine Z78 ?_
  refine Z1u ?_
  refine Z1d ?_
  refine ao2 (by rintro _ ⟨⟩; decide) (V2.call (by rw [List.append_nil]; exact insort l id g H hid (by omega)) rfl) ?_
  refine Z2s ?_
  repeat (first | refine then_nrm ?_ | refine aw_block ?_)
  refine aw_loop (G := U1) (fun _ => True) (fun _ => [(1, .int .i64 (l.length : Int)), (6, .int .i64 20)]) (fun _ => H.set id ⟨g, 13, (byPrio l).map eJob⟩ ++ []) (fun _ => 0) ⟨⟩ trivial (by repeat (first | exact Sub.nil | refine Sub.cons (by rfl) ?_)) (.inl (by rw [List.append_nil])) ?_
  rintro ⟨⟩ _
  repeat (refine aw_seq ?_)
  refine Z1o ?_
  refine Z14 ?_
  repeat (refine then_nrm ?_)
  refine aw_cond rfl (fun hc => ?_) (fun hc => ?_)
  · exfalso; simp at hc; omega
  repeat (first | refine then_brk ?_ | refine blk_hit ?_ | refine aw_exit ?_)
  exact e_doneF hB .nil rfl rfl (by simp) (hB.heap.set _ ⟨g, 13, (byPrio l).map eJob⟩ (jobs_bel _ _))
theorem sortStableJ (l : List Job) (id g : Nat) (H : Heap) (hid : H[id]? = some ⟨g, 13, l.map eJob⟩) (hl : l.length < 20) : AC Tryz.prog 199 [.sl id g 0 l.length l.length, .fn (.func 200) [] []] H (Ret (.tup []) (H.set id ⟨g, 13, (byPrio l).map eJob⟩)) := by
  refine AC.body (N := 9) [] Tryz.func199 rfl rfl rfl (Nat.le_of_ble_eq_true rfl) fun B hB => ?_
  refine Zgc ?_
  refine ao1 (by decide) (w_lens rfl (lkF hid) rfl) ?_
  refine Z1d ?_
  refine ao2 (by rintro _ ⟨⟩; decide) (V2.call (by rw [List.append_nil]; exact stableJ l id g H hid hl) rfl) ?_
  refine Z2s ?_
  exact e_doneG hB .nil rfl rfl (by simp) (hB.heap.set _ ⟨g, 13, (byPrio l).map eJob⟩ (jobs_bel _ _))
end Go.Av

namespace Go.Av
open Go.Proofs
set_option maxRecDepth 10000
set_option linter.unusedSimpArgs false
set_option linter.unusedVariables false
theorem V2.callS {P : Program} {N : Nat} {env : Env} {H0 L : Heap} {ty : TypeId} {f k : Nat} {xs : Array Operand} {ts : Array TypeId} {vs : List AV} {v : AV} {o : AObj} [FnI P f] (hac : AC P f vs (H0 ++ L) (Ret v ((H0 ++ L).set (Lid H0.length k) o))) (hvs : xs.toList.map (aev env) = vs) :
    V2 P N (.call { callee := .value (.func f), args := xs, argTypes := ts }) ty env (H0 ++ L) v (H0 ++ L.set k o) := by
  have := V2.call (N := N) (ty := ty) (ts := ts) hac hvs
  rwa [st rfl] at this
def readyB (l : List Job) (j : Job) : Bool := decide (j.state = 0) && j.needs.all fun n => decide ((jobAt l (jobPos l n)).state = 3)
theorem ready_step {l : List Job} {i : Nat} {j : Job} (hj : l[i]? = some j) : (l.take (i + 1)).filter (readyB l) = if readyB l j then (l.take i).filter (readyB l) ++ [j] else (l.take i).filter (readyB l) := by
  rw [take_snoc_get hj, List.filter_append]
  cases h : readyB l j <;> simp [h]
theorem queue_Ready_1 (l : List Job) (at_ b : Nat) (H : Heap) (hb : H[b]? = some ⟨0, 1, [[.pl (l.map eJob)]]⟩) (hat : at_ < l.length) : AC Tryz.prog 198 [.int .i64 (at_ : Int), .pt b 0 0 0] H (Ret (.bool (decide ((jobAt l at_).state = 3))) H) := by
  obtain ⟨x, hx, _⟩ := get_in (l := l) (k := at_) hat
  have hr := map_get eJob hx
  rw [jobAt_get hx]
  refine AC.body (N := 10) [.tmp 3] Tryz.func198 rfl rfl rfl (Nat.le_of_ble_eq_true rfl) fun B hB => ?_
  repeat (refine aw_seq ?_)
  refine Za ?_
  repeat (first | refine then_nrm ?_ | refine aw_seq ?_)
  refine aw_region ?_
  refine ao1 (by decide) (w_load1 (v := .pl _) rfl (lkF hb) rfl rfl rfl) ?_
  refine Z6 ?_
  refine Z37 ?_
  refine Zjo ?_
  refine Z38 ?_
  refine Zx ?_
  refine Z2l ?_
  repeat (first | refine then_nrm ?_ | refine aw_ret ?_)
  exact Z7
set_option maxHeartbeats 0 in
theorem queue_Ready (l : List Job) (H : Heap) (hw : JW l) (hl : l.length < 20) : AC Tryz.prog 176 [.pl (l.map eJob)] H (Ret (.pl ((jobsReadyIds l).map eI)) H) := by
  have hw1 := hw.1
  refine AC.body (N := 33) [.tmp 2] Tryz.func176 rfl rfl rfl (Nat.le_of_ble_eq_true rfl) fun B hB => ?_
  repeat (refine aw_seq ?_)
  refine aw_region ?_
  refine Zjd ?_
  refine Z73 ?_
  refine Z1x ?_
  repeat (first | refine then_nrm ?_ | refine aw_seq ?_)
  refine aw_region ?_
  refine Z2y ?_
  refine Zfx ?_
  refine Z2j ?_
  repeat (refine then_nrm ?_)
  refine aw_cond rfl (fun hc => ?_) (fun hc => ?_)
  · have hno : jobsR l = false := by simpa only [Bool.not_eq_true'] using hc
    rw [show jobsReadyIds l = [] by rw [jobsReadyIds, hno]; rfl]
    repeat (refine aw_seq ?_)
    refine Z2p ?_
    repeat (refine then_nrm ?_)
    refine aw_nslpl 2 rfl ?_
    exact Z7g
  have hyes : jobsR l = true := by simpa only [Bool.not_eq_false'] using hc
  have hs := jobsR_sorted hyes
  clear hc
  rw [show jobsReadyIds l = (byPrio (l.filter (readyB l))).map (·.id) by rw [jobsReadyIds, if_pos hyes]; rfl]
  repeat (first | refine then_nrm ?_ | refine aw_seq ?_ | refine aw_skip ?_)
  refine Z2p ?_
  repeat (first | refine then_nrm ?_ | refine aw_seq ?_)
  refine aw_ghostL (k := 1) 3 13 rfl (by decide) rfl ?_
  refine aw_region ?_
  refine Z2y ?_
  refine Z34 ?_
  refine Z75 ?_
  repeat (first | refine then_nrm ?_ | refine aw_block ?_)
  refine aw_loop (G := Nat) (fun i => i ≤ l.length) (fun i => [(1, .pt (Lid H.length 0) 0 0 0), (3, .sl (Lid H.length 1) ((l.take i).filter (readyB l)).length 0 ((l.take i).filter (readyB l)).length ((l.take i).filter (readyB l)).length), (9, .pl (l.map eJob)), (10, .int .i64 (l.length : Int)), (11, .int .i64 (i : Int))]) (fun i => H ++ [⟨0, 1, [[.pl (l.map eJob)]]⟩, ⟨((l.take i).filter (readyB l)).length, 13, ((l.take i).filter (readyB l)).map eJob⟩]) (fun i => l.length - i) 0 (Nat.zero_le _) (by repeat (first | exact Sub.nil | refine Sub.cons (by first | rfl | (simp [get]; done)) ?_)) (.inl rfl) ?_
  intro i hi
  repeat (refine aw_seq ?_)
  refine Z36 ?_
  repeat (first | refine then_nrm ?_ | refine aw_seq ?_)
  refine aw_cond rfl (fun hc => ?_) (fun hc => ?_)
  · have hlt : i < l.length := by simpa using hc
    obtain ⟨j, hj, hjl⟩ := get_in hlt
    have hr := map_get eJob hj
    have hjn := hw.2 j hjl
    have hst := ready_step hj
    have hbf := fun n hn => (needs_before hyes hj (n := n) hn).1
    have hle : ((l.take i).filter (readyB l)).length ≤ i := Nat.le_trans (List.length_filter_le _ _) (by rw [List.length_take]; omega)
    generalize (l.take i).filter (readyB l) = acc at hst hle ⊢
    clear hc
    repeat (first | refine then_nrm ?_ | refine aw_seq ?_ | refine aw_block ?_ | refine aw_skip ?_)
    refine Zdv ?_
    refine Z9a ?_
    repeat (first | refine then_nrm ?_ | refine aw_seq ?_)
    refine aw_out 23 (.bool (readyB l j)) ?_ ?_
    · refine Z20 ?_
      refine Z3r ?_
      refine ao_split rfl rfl (fun hg3 => ?_) (fun hg3 => ?_)
      · refine Z5j ?_
        refine Z41 ?_
        refine Zjf ?_
        refine ao_y rfl rfl (by decide) (V2.call (queue_every 198 [.pt (Lid H.length 0) 0 0 0] (fun a => decide ((jobAt l a).state = 3)) l j _ (fun n hn L' => queue_Ready_1 l (jobPos l n) (Lid H.length 0) _ (lkF (lk rfl rfl)) (by have := hbf n hn; omega)) hw1 hs hjn) rfl) ?_
        refine Zg ?_
        exact Zjp
      · refine Z3n ?_
        refine Zm ?_
        exact Zjp
    repeat (refine then_nrm ?_)
    refine aw_cond rfl (fun hc => ?_) (fun hc => ?_)
    · rw [if_pos hc] at hst
      refine Zg0 ?_
      refine ao2 (by rintro _ ⟨⟩; decide) (g_lit1 (sz := 13) (v := .agg (eJob j)) (cs := eJob j) rfl (by decide) (by decide) rfl rfl rfl rfl rfl) ?_
      refine ao2 (by rintro _ ⟨⟩; decide) (w_append rfl rfl rfl rfl rfl (Src.pl (ys := [eJob j]) rfl (jobs_len [j])) rfl (by simp) (by simp) (by simp; omega) (by simp; omega)) ?_
      refine Z7c ?_
      refine Zjq ?_
      rw [show (acc.map eJob).take acc.length = acc.map eJob from List.take_of_length_le (by simp)]
      repeat (first | refine then_nrm ?_ | refine blk_nrm ?_)
      refine Z3i ?_
      repeat (refine then_nrm ?_)
      refine ⟨i + 1, by omega, by omega, by rw [hst, List.length_append]; exact (by repeat (first | exact Sub.nil | refine Sub.cons (by rfl) ?_)), ?_⟩
      rw [hst, List.length_append]
      refine Fit.loc hB (by rw [List.map_append]; rfl) (by repeat (first | exact EBel.nil | refine EBel.cons (by first | rfl | (simp [AV.bel, AV.bels, Lid]; done)) ?_)) ?_
      intro o ho r hr
      simp only [List.mem_cons, List.not_mem_nil, or_false] at ho
      rcases ho with rfl | rfl
      · simp only [List.mem_singleton] at hr; subst hr; rfl
      · exact jobs_bel _ _ r hr
    · rw [if_neg (by rw [hc]; decide)] at hst
      repeat (first | refine then_nrm ?_ | refine blk_nrm ?_ | refine aw_skip ?_)
      refine Z3i ?_
      repeat (refine then_nrm ?_)
      refine ⟨i + 1, by omega, by omega, by rw [hst]; exact (by repeat (first | exact Sub.nil | refine Sub.cons (by rfl) ?_)), ?_⟩
      rw [hst]
      refine Fit.loc hB rfl (by repeat (first | exact EBel.nil | refine EBel.cons (by first | rfl | (simp [AV.bel, AV.bels, Lid]; done)) ?_)) ?_
      intro o ho r hr
      simp only [List.mem_cons, List.not_mem_nil, or_false] at ho
      rcases ho with rfl | rfl
      · simp only [List.mem_singleton] at hr; subst hr; rfl
      · exact jobs_bel _ _ r hr
  · have : i = l.length := by simp at hc; omega
    subst this
    rw [List.take_length]
    have hfl : (l.filter (readyB l)).length ≤ l.length := List.length_filter_le _ _
    generalize l.filter (readyB l) = acc at hfl ⊢
    clear hc
    have hbl := byPrio_len acc
    repeat (first | refine then_nrm ?_ | refine then_brk ?_ | refine blk_hit ?_ | refine aw_seq ?_ | refine aw_exit ?_)
    refine Z78 ?_
    refine ao2 (by rintro _ ⟨⟩; decide) (V2.callS (k := 1) (sortStableJ acc (Lid H.length 1) acc.length _ (lk rfl rfl) (by omega)) rfl) ?_
    refine ao_nil ?_
    refine Zgh ?_
    repeat (first | refine then_nrm ?_ | refine aw_seq ?_)
    refine aw_freezeL (ys := (byPrio acc).map eJob) 3 rfl rfl rfl rfl (by rw [List.drop_zero, List.take_of_length_le (by simp; omega)]) (by simp; omega) (jobs_bel 0 _) ?_
    refine Z2r ?_
    refine ao_ret (queue_ids _ _ (by omega)) rfl (by decide) ?_
    refine Z9z ?_
    try dsimp only [List.set_cons_succ, List.set_cons_zero]
    repeat (first | refine then_nrm ?_ | refine aw_ret ?_)
    exact Z7
end Go.Av

namespace Go.Av
open Go
set_option linter.unusedVariables false
section
variable {P : Program} {N : Nat} {B : Base} {Q : Post} {env : Env} {H H0 L : Heap} {ty : TypeId} {ops : Array Oper} {rest : List Oper}
structure SrcRN (P : Program) (S : List Slot) (w : World) (sz full : Nat) (ys : List (List AV)) (x : Value) (news : Array Value) : Prop where
  len : ∀ w', (Builtin.lenOf x).run P w' = .ok full w'
  first : ∀ w', w'.heap = w.heap → (Builtin.firstCells sz ys.length x).run P w' = .ok news w'
  cells : CellsR S w ys.flatten news
  one : ∀ u ∈ news.toList, u.oneCell' = true
  wide : ∀ r ∈ ys, r.length = sz
def SrcN (P : Program) (N : Nat) (env : Env) (H : Heap) (x : Operand) (sz full : Nat) (ys : List (List AV)) : Prop := ∀ S a w, CR N env H S a w → ∃ news, SrcRN P S w sz full ys (a.eval x) news
theorem SrcN.sl {x : Operand} {id g off len cap n sz : Nat} {o : AObj} {ys : List (List AV)} (hx : aev env x = .sl id g off len cap) (hid : H[id]? = some o) (hg : o.gen = g) (hsz : o.sz = sz) (hn : n ≤ len) (hys : (o.rows.drop off).take n = ys) (hlen : ys.length = n) : SrcN P N env H x sz len ys := by
  subst hg
  intro S a w hc
  obtain ⟨s, c, hs, ok, hcc, hlc, h⟩ := hc.slc hx hid
  rcases h with ⟨h0, ad, he⟩ | ⟨b, arr, et, hp, he, hb, hfit, hrow⟩
  · have hc1 : CR 1 [(0, .nsl)] H S { tmps := #[.slice ad 0 0], defers := [] } w := ⟨hc.heap, fun t => by
      cases t with
      | zero => exact .nsl
      | succ t => exact .junk, rfl, rfl⟩
    obtain ⟨news, hr⟩ := src_nsl (P := P) (sz := sz) hc1 (x := .tmp 0) rfl
    have e0 : ys = [] := List.eq_nil_of_length_eq_zero (by omega)
    subst e0
    rw [he]
    have e1 : len = 0 := by omega
    subst e1
    exact ⟨news, ⟨fun w' => rfl, hr.first, hr.cells, hr.one, hr.wide⟩⟩
  · have hc1 : CR 1 [(0, .sl id o.gen off n n)] H S { tmps := #[.slice (some ⟨b, off * o.sz, none⟩) n c], defers := [] } w := ⟨hc.heap, fun t => by
      cases t with
      | zero => exact .sl s hs (by rw [ok.gen]; exact Nat.le_refl _) rfl fun _ => ⟨c, by omega, by omega, .inr ⟨b, arr, et, hp, by rw [ok.sz]; rfl, hb, by rw [← ok.sz]; exact hfit⟩⟩
      | succ t => exact .junk, rfl, rfl⟩
    obtain ⟨news, hr⟩ := src_sl (P := P) hc1 (x := .tmp 0) rfl hid hys hlen
    rw [he]
    subst hsz
    exact ⟨news, ⟨fun w' => rfl, fun w' hw' => hr.first w' hw', hr.cells, hr.one, hr.wide⟩⟩
theorem o_copy {t t' e : TypeId} {x y : Operand} {id off len cap sz full : Nat} {agg : Bool} {o : AObj} {ys : List (List AV)} [hu : SlI P t e] [TyI P e agg sz] (hx : aev env x = .sl id o.gen off len cap) (hid : H[id]? = some o) (hsz : o.sz = sz) (hoff : off ≤ o.rows.length)
    (hy : SrcN P N env H y sz full ys) (hmin : Nat.min full len = ys.length) :
    V2 P N (.call { callee := .builtin .copy, args := #[x, y], argTypes := #[t, t'] }) ty env H (.int .i64 (ys.length : Int)) (H.set id { o with rows := o.rows.take off ++ ys ++ o.rows.drop (off + ys.length) }) := by
  intro dst pos after guard S a w hc next Q hnext _
  obtain ⟨news, hs⟩ := hy S a w hc
  obtain ⟨s, c, hsl, ok, hcc, hlc, h⟩ := hc.slc hx hid
  have hnl := hs.cells.1
  rw [flat_length hs.wide] at hnl
  have hyl : ys.length ≤ len := by rw [← hmin]; exact Nat.min_le_right _ _
  have key : ∀ (w' : World) (ad : Option Addr), a.eval x = .slice ad len c → (match ad with | some b => (storeCells b news.toList).run P w | none => .ok () w) = .ok () w' →
      HRel (H.set id { o with rows := o.rows.take off ++ ys ++ o.rows.drop (off + ys.length) }) S w' → Ext S w S w' → Oper.wp P ⟨dst, .call { callee := .builtin .copy, args := #[x, y], argTypes := #[t, t'] }, ty, pos, after, guard⟩ a w next Q := by
    intro w' ad he hst hh hxx
    have hrun : (execOp a.eval ⟨dst, .call { callee := .builtin .copy, args := #[x, y], argTypes := #[t, t'] }, ty, pos, after, guard⟩).run P w = .ok (.value (.int .i64 (ys.length : Int))) w' := by
      have hm' : min full len = ys.length := hmin
      have hf := hs.first w rfl
      cases ad with
      | none =>
        simp only at hst
        injection hst with _ e1
        subst e1
        simp [execOp, resolve, invoke, builtin, Builtin.copy_, he, run_und hu.ud, run_sz (P := P) (t := e) (agg := agg) (sz := sz), hs.len, hm', hf, goInt, Nat.min_def]
        simp_all [Nat.min_def]
      | some ad =>
        simp only at hst
        simp [execOp, resolve, invoke, builtin, Builtin.copy_, he, run_und hu.ud, run_sz (P := P) (t := e) (agg := agg) (sz := sz), hs.len, hf, goInt, hmin, hst]
    unfold Oper.wp
    rw [hrun]
    exact hnext _ _ _ S w' ⟨rfl, rfl⟩ hh hxx .int
  rcases h with ⟨h0, ad, he⟩ | ⟨b, arr, et, hp, he, hbl, hfit, hrow⟩
  · have el : len = 0 := by omega
    subst el
    have e0 : ys = [] := List.eq_nil_of_length_eq_zero (by omega)
    subst e0
    have en : news = #[] := by
      have : news.size = 0 := by rw [← hnl]; simp
      exact Array.eq_empty_of_size_eq_zero this
    subst en
    refine key w ad (by rw [he, h0]) ?_ ?_ (Ext.refl S w)
    · cases ad <;> simp [storeCells]
    · have e : (o.rows.take off ++ [] ++ o.rows.drop (off + ([] : List (List AV)).length)) = o.rows := by simp
      rw [e]
      have : H.set id { o with rows := o.rows } = H := by
        apply List.ext_getElem?
        intro i
        by_cases ei : id = i
        · subst ei
          rw [List.getElem?_set_self (List.getElem?_eq_some_iff.1 hid).1, hid]
        · rw [List.getElem?_set_ne ei]
      rw [this]
      exact hc.heap
  · have hfit2 : off * o.sz + news.size ≤ arr.size := by
      rw [← hnl, hsz, ← Nat.add_mul]
      rw [hsz] at hfit
      exact Nat.le_trans (Nat.mul_le_mul_right _ (by omega)) hfit
    have hst := run_storeCells_at P b (off * o.sz) et news.toList 0 arr w hbl (by simpa using hfit2) hs.one
    simp only [Nat.add_zero, Array.length_toList] at hst
    have hsize : (arr.toList.take (off * o.sz) ++ news.toList ++ arr.toList.drop (off * o.sz + news.size)).toArray.size = arr.size := by
      simp
      omega
    have hwa : ∀ r ∈ o.rows, r.length = sz := by
      intro r hr
      obtain ⟨i, hi⟩ := List.mem_iff_getElem?.1 hr
      rw [← hsz]
      exact (hrow.2 i r hi).1
    have hnew : RowOK (own S) S w o.sz (arr.toList.take (off * o.sz) ++ news.toList ++ arr.toList.drop (off * o.sz + news.size)).toArray (o.rows.take off ++ ys ++ o.rows.drop (off + ys.length)) := by
      have hin : RowOK (own S) S w o.sz news ys := by rw [hsz]; exact rows_of_flat hs.wide hs.cells
      refine ⟨?_, fun i r hr => ?_⟩
      · rw [hsize]
        have h1 := hrow.1
        have h2 : (off + ys.length) * o.sz ≤ arr.size := by rw [Nat.add_mul, hsz, hnl, ← hsz]; exact hfit2
        have h3 : (o.rows.take off ++ ys ++ o.rows.drop (off + ys.length)).length = max o.rows.length (off + ys.length) := by simp; omega
        rw [h3]
        rcases Nat.le_total o.rows.length (off + ys.length) with hle | hle
        · rw [Nat.max_eq_right hle]; exact h2
        · rw [Nat.max_eq_left hle]; exact h1
      · have htl : (o.rows.take off).length = off := by simp; omega
        have hal : (arr.toList.take (off * o.sz)).length = off * o.sz := by simp; omega
        have hyz : ys.length * o.sz = news.size := by rw [hsz]; exact hnl
        by_cases c1 : i < off
        · rw [List.append_assoc, List.getElem?_append_left (by omega), List.getElem?_take, if_pos c1] at hr
          obtain ⟨k1, k2⟩ := hrow.2 i r hr
          refine ⟨k1, fun j v hv => ?_⟩
          obtain ⟨k3, u, k4, k5⟩ := k2 j v hv
          have hj : j < o.sz := by rw [← k1]; exact (List.getElem?_eq_some_iff.1 hv).1
          have hlt : i * o.sz + j < off * o.sz := by
            have : (i + 1) * o.sz ≤ off * o.sz := Nat.mul_le_mul_right _ c1
            rw [Nat.succ_mul] at this
            omega
          refine ⟨k3, u, ?_, k5⟩
          rw [List.getElem?_toArray, List.append_assoc, List.getElem?_append_left (by omega), List.getElem?_take, if_pos hlt, Array.getElem?_toList]
          exact k4
        · by_cases c2 : i < off + ys.length
          · rw [List.append_assoc, List.getElem?_append_right (by omega), htl, List.getElem?_append_left (by omega)] at hr
            obtain ⟨k1, k2⟩ := hin.2 (i - off) r hr
            refine ⟨k1, fun j v hv => ?_⟩
            obtain ⟨k3, u, k4, k5⟩ := k2 j v hv
            have hlt := (Array.getElem?_eq_some_iff.1 k4).1
            refine ⟨k3, u, ?_, k5⟩
            have e1 : i * o.sz + j - off * o.sz = (i - off) * o.sz + j := by
              rw [Nat.sub_mul]
              have : off * o.sz ≤ i * o.sz := Nat.mul_le_mul_right _ (by omega)
              omega
            have hge : off * o.sz ≤ i * o.sz := Nat.mul_le_mul_right _ (by omega)
            rw [List.getElem?_toArray, List.append_assoc, List.getElem?_append_right (by omega), hal, e1, List.getElem?_append_left (by simpa using hlt), Array.getElem?_toList]
            exact k4
          · rw [List.getElem?_append_right (by simp; omega)] at hr
            have e2 : i - (o.rows.take off ++ ys).length = i - (off + ys.length) := by simp; omega
            rw [e2, List.getElem?_drop, show off + ys.length + (i - (off + ys.length)) = i by omega] at hr
            obtain ⟨k1, k2⟩ := hrow.2 i r hr
            refine ⟨k1, fun j v hv => ?_⟩
            obtain ⟨k3, u, k4, k5⟩ := k2 j v hv
            refine ⟨k3, u, ?_, k5⟩
            have hge : (off + ys.length) * o.sz ≤ i * o.sz := Nat.mul_le_mul_right _ (by omega)
            rw [Nat.add_mul, hyz] at hge
            have hl2 : (arr.toList.take (off * o.sz) ++ news.toList).length = off * o.sz + news.size := by simp; omega
            rw [List.getElem?_toArray, List.getElem?_append_right (by omega), hl2, List.getElem?_drop, show off * o.sz + news.size + (i * o.sz + j - (off * o.sz + news.size)) = i * o.sz + j by omega, Array.getElem?_toList]
            exact k4
    have hw := hc.heap.write (rows' := o.rows.take off ++ ys ++ o.rows.drop (off + ys.length)) hid hsl hp hbl hsize hnew
    exact key _ (some ⟨b, off * o.sz, none⟩) he hst hw.1 hw.2
theorem o_overlaps {f : FuncId} {fn : Func} {x y : Operand} {ts : Array TypeId} {tS tR e : TypeId} {id g off len cap id' g' off' len' cap' sz : Nat} {agg : Bool} {o o' : AObj} [hu : SlI P tS e] [TyI P e agg sz]
    (hf : P.funcs[f]? = some fn) (hname : (fn.name == "runtime.NumGoroutine") = false) (hb : fn.body.isNone = true) (hn : Extern.findNext fn = none) (he : Extern.find fn = some (Extern.SlicesOverlaps.overlaps #[tS, tS] #[tR]))
    (hx : aev env x = .sl id g off len cap) (hid : H[id]? = some o) (hg : o.gen = g) (hy : aev env y = .sl id' g' off' len' cap') (hid' : H[id']? = some o') (hg' : o'.gen = g') (hne : id ≠ id') (h0 : 0 < len) (h0' : 0 < len') (hz : o'.sz = sz) :
    V1 P N (.call { callee := .value (.func f), args := #[x, y], argTypes := ts }) ty env H (.bool false) := by
  subst hg; subst hg'
  refine o_extern hf hname hb hn he fun S a w hc => ?_
  obtain ⟨s, c, hsl, ok, hcc, hlc, h⟩ := hc.slc hx hid
  obtain ⟨s', c', hsl', ok', hcc', hlc', h'⟩ := hc.slc hy hid'
  rcases h with ⟨q0, ad, hx1⟩ | ⟨b, arr, et, hp, hx1, hbl, hfit, hrow⟩
  · omega
  rcases h' with ⟨q0, ad, hy1⟩ | ⟨b', arr', et', hp', hy1, hbl', hfit', hrow'⟩
  · omega
  have hbb : b ≠ b' := fun e1 => hne (hc.heap.inj id id' s s' b hsl hsl' hp (e1 ▸ hp'))
  refine ⟨.bool false, ?_, .bool⟩
  have e1 : (#[x, y] : Array Operand).map a.eval = #[a.eval x, a.eval y] := by simp
  rw [e1, hx1, hy1]
  have hpos := ok'.pos
  have hpos1 := ok.pos
  refine Lib.run_overlaps_apart w tS tR e hu.ud sz (fun w => run_sz (P := P) (t := e) (agg := agg) (sz := sz) w) ⟨b, off * o.sz, none⟩ ⟨b', off' * o'.sz, none⟩ len c len' c' hbb et et' arr.size arr'.size ?_ ?_ ?_ ?_ ?_
  · simp [World.shape?, hbl]
  · simp [World.shape?, hbl']
  · have : 1 * 1 ≤ (off' + c') * o'.sz := Nat.mul_le_mul (by omega) hpos
    omega
  · simp [World.frozen?, hbl]
  · simp [World.frozen?, hbl]
theorem CR.raw0 {S : List Slot} {a : Act} {w : World} (hc : CR N env H S a w) (t : Nat) : CR N ((t, .raw (a.tmps.getD t undef)) :: env) H S a w :=
  ⟨hc.heap, fun t' => by
    by_cases e : t = t'
    · subst e; rw [get_put_same]; exact .raw
    · rw [get_put_other _ _ e]; exact hc.env t', hc.size, hc.defers⟩
theorem lo1 {S : List Slot} {a : Act} {w : World} {QQ : Exit → Act → World → Prop} {d : Nat} {op : Op} {pos : String} {after : Array Edge} {v : AV} (hc : CR N env H S a w) (hd : d < N) (h1 : V1 P N op ty env H v) (k : ∀ a', CR N ((d, v) :: env) H S a' w → wpList P ops QQ rest a' w) : wpList P ops QQ (⟨some d, op, ty, pos, after, none⟩ :: rest) a w := by
  refine wpList_plain rfl fun next hnext => ?_
  obtain ⟨u, hr, hv⟩ := h1 S a w hc
  unfold Oper.wp
  rw [hr]
  exact hnext _ _ (k _ (CR.put (d := some d) hc (Ext.refl S w) hc.heap (by rintro _ ⟨⟩; exact hd) hv))
theorem ev_raw {S : List Slot} {a : Act} {w : World} (hc : CR N env H S a w) {x : Operand} {u : Value} (h : aev env x = .raw u) : a.eval x = u := by
  have := hc.ev x
  rw [h] at this
  generalize a.eval x = u' at this
  cases this
  rfl
theorem o_capRaw {t e : TypeId} {x : Operand} {ad : Option Addr} {l c : Nat} [hu : SlI P t e] (hx : aev env x = .raw (.slice ad l c)) : V1 P N (.call { callee := .builtin .cap, args := #[x], argTypes := #[t] }) ty env H (.int .i64 (c : Int)) := by
  intro S a w hc
  refine ⟨.int .i64 c, fun _ _ _ _ => ?_, .int⟩
  simp [execOp, resolve, invoke, builtin, Builtin.cap_, ev_raw hc hx, run_und hu.ud, goInt]
theorem o_sliceRaw {t e : TypeId} {x y : Operand} {b off n c i sz : Nat} {k : IntKind} {agg : Bool} [hu : SlI P t e] [TyI P e agg sz] (hx : aev env x = .raw (.slice (some ⟨b, off, none⟩) n c)) (hy : aev env y = .int k (i : Int)) (hi : i ≤ c) (hc0 : 0 < c) :
    V1 P N (.slice t x none (some y) none) ty env H (.raw (.slice (some ⟨b, off, none⟩) i c)) := by
  intro S a w hc
  have hb' := run_sliceBounds2 (P := P) (lo := none) (hi := some y) (l := 0) (h := i) (len := n) hc true (cap := c) rfl (.some hy rfl) (Nat.zero_le _) hi
  simp only [Option.map_none, Option.map_some] at hb'
  refine ⟨_, fun _ _ _ _ => ?_, .raw⟩
  have e1 : (⟨b, off, none⟩ : Addr).add (0 * sz) = ⟨b, off, none⟩ := by rw [add_none, Nat.zero_mul, Nat.add_zero]
  have e2 : ¬ c = 0 := by omega
  simp [execOp, ev_raw hc hx, Instr.sliceAt, Instr.slice, run_und hu.ud, hb', run_sz (P := P) (t := e) (agg := agg) (sz := sz), e2, add_none]
end
end Go.Av

namespace Go.Av
open Go
set_option linter.unusedVariables false
section
variable {P : Program} {N : Nat} {B : Base} {Q : Post} {env : Env} {H H0 L : Heap} {ty : TypeId} {ops : Array Oper} {rest : List Oper}
theorem run_append_zeros {t t' e : TypeId} {sz bytes : Nat} {agg : Bool} {zs : List AV} [hu : SlI P t e] [hni : UdI P t' (.int .i64)] [ht : TyI P e agg sz] [hz : ZcI P e zs] [hby : ByI P e bytes] (S : List Slot) {w : World} {olds : Array Value} {ad : Addr} {i k c : Nat} (hzs : zs.length = sz) (hpos : 0 < sz)
    (hold : (Builtin.firstCells sz i (.slice (some ad) i c)).run P w.drew = .ok olds w.drew) (hk : 0 < k) (hroom : c < i + k) (h63 : i + k ≤ 9223372036854775807) (hb : (i + k) * bytes ≤ 140737488355328) :
    ∃ cap' more rest, i + k ≤ cap' ∧ rest.size = (cap' - (i + k)) * sz ∧ CellsR S w (List.replicate k zs).flatten more ∧ (Builtin.append_ #[t, t'] ty #[.slice (some ad) i c, .int .i64 (k : Int)]).run P w = .ok (.slice (some ⟨w.heap.size, 0, none⟩) (i + k) cap') (w.drew.alloc (.cells (olds ++ more ++ rest) e)) := by
  obtain ⟨z, hz0, hz1, hz2⟩ := hz.ze
  have hzr : CellsR S w zs z.cells := .of_val hz1 hz2
  have htb := hby.by_
  cases hi : P.info? e with
  | none => simp [hi] at htb
  | some q =>
    simp [hi] at htb hz0
    have hfit := growslice_fits (bytes := q.bytes) hroom (by rw [htb]; exact hb)
    have hzl : z.cells.size = sz := by rw [← hzs, ← hz1]; simp
    have n0 : ¬ ((k : Int) < 0) := by omega
    have nw : IntKind.i64.wrap (k : Int) = k := by rw [IntKind.wrap_i64]; omega
    have n1 : ¬ (i + k ≤ c) := by omega
    have n2 : ¬ ((9223372036854775807 : Int) < ((i : Int) + (k : Int))) := by omega
    have n3 : ¬ (281474976710656 < Builtin.nextslicecap (i + k) c * q.bytes) := by omega
    have n4 : ¬ ((281474976710656 : Int) < (k : Int) * (q.bytes : Int)) := by
      rw [← Int.natCast_mul]
      rw [← htb, Nat.add_mul] at hb
      omega
    have n5 : ¬ (k * sz = 0) := Nat.mul_ne_zero (by omega) (by omega)
    have n6 : k ≠ 0 := by omega
    have n7 : sz ≠ 0 := by omega
    have hrep := hzr.rep (by omega) k
    rw [hzs, ← hzl] at hrep
    refine ⟨grownCap w (i + k) c e, Builtin.zeroCells z.cells k, Builtin.zeroCells z.cells (grownCap w (i + k) c e - (i + k)), grownCap_ge _ _ _ _, ?_, hrep, ?_⟩
    · rw [size_zeroCells, hzl]
    · have hiz : q.zero = some z := hz0
      simp [Builtin.append_, run_und hu.ud, run_und hni.ud, run_sz (P := P) (t := e) (agg := agg) (sz := sz), typeInfo, zeroValue, hi, hiz, asInt, asIntOf, nw, n0, n1, n2, n3, n4, n6, n7, Question.forced, hold, newRow, grownCap]
      intro hh; exact absurd hh n5
theorem lo_appendZ {t t' e : TypeId} {sz bytes : Nat} {agg : Bool} {zs : List AV} [hu : SlI P t e] [hni : UdI P t' (.int .i64)] [ht : TyI P e agg sz] [hz : ZcI P e zs] [hby : ByI P e bytes] {S : List Slot} {a : Act} {w : World} {QQ : Exit → Act → World → Prop} {d : Nat} {pos : String} {after : Array Edge} {x y : Operand} {b i k c id : Nat} {o : AObj} {s : Slot} {arr : Array Value} {et : TypeId}
    (hzs : zs.length = sz) (hc : CR N env H S a w) (hd : d < N) (hx : aev env x = .raw (.slice (some ⟨b, 0, none⟩) i c)) (hy : aev env y = .int .i64 (k : Int)) (hid : H[id]? = some o) (hs : S[id]? = some s) (hp : s.place = some b) (hsz : o.sz = sz)
    (hb : w.heap[b]? = some (Obj.cells arr et (0, 0))) (hfit : c * o.sz ≤ arr.size) (hic : i ≤ c) (hi : i ≤ o.rows.length) (hk : 0 < k) (hroom : c < i + k) (h63 : i + k ≤ 9223372036854775807) (hby' : (i + k) * bytes ≤ 140737488355328)
    (next : ∀ a' S' w', CR N ((d, .sl H.length 0 0 (i + k) (i + k)) :: env) (H ++ [⟨0, sz, o.rows.take i ++ List.replicate k zs⟩]) S' a' w' → Ext S w S' w' → wpList P ops QQ rest a' w') :
    wpList P ops QQ (⟨some d, .call { callee := .builtin .append, args := #[x, y], argTypes := #[t, t'] }, ty, pos, after, none⟩ :: rest) a w := by
  have ok := hc.heap.obj id o s hid hs
  have hpos := ok.pos
  have hc1 : CR 1 [(0, .sl id o.gen 0 i i)] H S { tmps := #[.slice (some ⟨b, 0, none⟩) i c], defers := [] } w := ⟨hc.heap, fun t => by
      cases t with
      | zero => exact .sl s hs (by rw [ok.gen]; exact Nat.le_refl _) rfl fun _ => ⟨c, by omega, by omega, .inr ⟨b, arr, et, hp, by rw [Nat.zero_mul]; rfl, hb, by rw [← ok.sz, Nat.zero_add]; exact hfit⟩⟩
      | succ t => exact .junk, rfl, rfl⟩
  obtain ⟨olds, hr⟩ := src_sl (P := P) hc1 (x := .tmp 0) rfl hid (ys := o.rows.take i) (by rw [List.drop_zero]) (by simp; omega)
  have hlen : (o.rows.take i).length = i := by simp; omega
  have hold := hr.first w.drew rfl
  rw [hlen, hsz] at hold
  obtain ⟨cap', more, rest', g1, g2, g3, g4⟩ := run_append_zeros (P := P) (t := t) (t' := t') (e := e) (ty := ty) (sz := sz) (bytes := bytes) (agg := agg) (zs := zs) S (w := w) (ad := ⟨b, 0, none⟩) hzs (by omega) hold hk hroom h63 hby'
  have hm := Made.drew_alloc w (olds ++ more ++ rest') e
  have hwide : ∀ r ∈ o.rows.take i ++ List.replicate k zs, r.length = sz := by
    intro r hr'
    rcases List.mem_append.1 hr' with h | h
    · rw [← hsz]; exact hr.wide r h
    · rw [List.eq_of_mem_replicate h]; exact hzs
  have hrow0 : RowOK (own S) S w sz (olds ++ more ++ rest') (o.rows.take i ++ List.replicate k zs) := RowOK.of_cells hwide (by rw [List.flatten_append]; exact hr.cells.append g3)
  obtain ⟨hh, hx'⟩ := hc.heap.made hm (by omega) hrow0
  refine wpList_plain rfl fun nx hnx => ?_
  have hrun : (execOp a.eval ⟨some d, .call { callee := .builtin .append, args := #[x, y], argTypes := #[t, t'] }, ty, pos, after, none⟩).run P w = .ok (.value (.slice (some ⟨w.heap.size, 0, none⟩) (i + k) cap')) (w.drew.alloc (.cells (olds ++ more ++ rest') e)) := by
    simp [execOp, resolve, invoke, builtin, ev_raw hc hx, ev_int hc hy, g4]
  unfold Oper.wp
  rw [hrun]
  refine hnx _ _ (next _ _ _ (CR.put (d := some d) hc hx' hh (by rintro _ ⟨⟩; exact hd) ?_) hx')
  refine .sl ⟨0, sz, some w.heap.size⟩ (by rw [hc.heap.len]; exact SExt.last S _) (Nat.le_refl _) rfl fun _ => ⟨cap', g1, g1, .inr ⟨w.heap.size, _, _, rfl, by simp, hm.new, ?_⟩⟩
  have h1 := hr.cells.1
  have h2 := g3.1
  rw [flat_length hr.wide, hlen, hsz] at h1
  rw [flat_length (sz := sz) (fun r h => by rw [List.eq_of_mem_replicate h]; exact hzs), List.length_replicate] at h2
  simp only [Array.size_append, ← h1, ← h2, g2, Nat.zero_add, ← Nat.add_mul]
  exact Nat.mul_le_mul_right _ (by omega)
theorem aw_insert {tS t' e : TypeId} {sz bytes n m i id g cap r8 r9 : Nat} {agg : Bool} {zs : List AV} [hu : SlI P tS e] [hni : UdI P t' (.int .i64)] [ht : TyI P e agg sz] [hz : ZcI P e zs] [hby : ByI P e bytes] {Y : Code} {o : AObj} {v : AV}
    {y1 y2 y3 y4 y5 y6 z1 z2 z3 z4 z5 z6 z7 z8 z9 z10 : TypeId} {p1 p2 p3 p4 p5 p6 q1 q2 q3 q4 q5 q6 q7 q8 q9 q10 : String} {a1 a2 a3 a4 a5 a6 b1 b2 b3 b4 b5 b6 b7 b8 b9 b10 : Array Edge}
    {k1 k2 k3 k4 k5 k6 k7 k8 : TypeId}
    (hN : 41 ≤ N) (h0 : get env 0 = .sl id g 0 n cap) (h1 : get env 1 = .int .i64 (i : Int)) (h2 : get env 2 = v) (h7 : get env 7 = .int .i64 (m : Int)) (h8 : get env 8 = .int .i64 (n : Int)) (hid : H[id]? = some o) (hg : o.gen = g) (hsz : o.sz = sz) (hzs : zs.length = sz)
    (hnr : n ≤ o.rows.length) (hi : i < n) (hm : 0 < m) (hbig : n + m ≤ 1000000) (hbb : bytes ≤ 1000000)
    (hroom : Q .nrm [(0, .sl id g 0 n (n + m)), (1, .int .i64 (i : Int)), (2, v), (7, .int .i64 (m : Int)), (8, .int .i64 (n : Int))] H)
    (hgrow : AWp P N B Y Q [(9, .sl H.length 0 0 (n + m) (n + m)), (0, .sl id g 0 n n), (1, .int .i64 (i : Int)), (2, v), (7, .int .i64 (m : Int)), (8, .int .i64 (n : Int))] (H ++ [⟨0, sz, o.rows.take i ++ List.replicate (n + m - i) zs⟩])) :
    AWp P N B (.seq (.region r8 #[⟨some 26, .move (.tmp 8), y1, p1, a1, none⟩, ⟨some 27, .move (.tmp 7), y2, p2, a2, none⟩, ⟨some 28, .binOp .add k1 (.tmp 26) (.tmp 27) k2, y3, p3, a3, none⟩, ⟨some 29, .move (.tmp 0), y4, p4, a4, none⟩,
        ⟨some 30, .call { callee := .builtin .cap, args := #[.tmp 29], argTypes := #[tS] }, y5, p5, a5, none⟩, ⟨some 31, .binOp .gtr k3 (.tmp 28) (.tmp 30) k4, y6, p6, a6, none⟩] false)
      (.cond (.tmp 31) (.seq (.region r9 #[⟨some 32, .move (.tmp 0), z1, q1, b1, none⟩, ⟨some 33, .move (.tmp 1), z2, q2, b2, none⟩, ⟨some 34, .slice tS (.tmp 32) none (some (.tmp 33)) none, z3, q3, b3, none⟩, ⟨some 35, .move (.tmp 8), z4, q4, b4, none⟩, ⟨some 36, .move (.tmp 7), z5, q5, b5, none⟩,
        ⟨some 37, .binOp .add k5 (.tmp 35) (.tmp 36) k6, z6, q6, b6, none⟩, ⟨some 38, .move (.tmp 1), z7, q7, b7, none⟩, ⟨some 39, .binOp .sub k7 (.tmp 37) (.tmp 38) k8, z8, q8, b8, none⟩, ⟨some 40, .call { callee := .builtin .append, args := #[.tmp 34, .tmp 39], argTypes := #[tS, t'] }, z9, q9, b9, none⟩, ⟨some 9, .assign (.tmp 40), z10, q10, b10, none⟩] false) Y) .skip)) Q env H := by
  intro S a w hc hb
  subst hg
  obtain ⟨s, c, hs, ok, hcc, hlc, h⟩ := hc.slc (x := .tmp 0) h0 hid
  rcases h with ⟨q0, ad, he⟩ | ⟨b, arr, et, hp, he, hbl, hfit, hrow⟩
  · omega
  have he' : a.tmps.getD 0 undef = .slice (some ⟨b, 0 * o.sz, none⟩) n c := he
  rw [Nat.zero_mul] at he'
  have hc0 := hc.raw0 0
  rw [he'] at hc0
  rw [Nat.zero_add] at hfit
  have w1 : IntKind.i64.wrap ((n : Int) + (m : Int)) = ((n + m : Nat) : Int) := by rw [IntKind.wrap_i64]; omega
  have w2 : IntKind.i64.wrap (((n + m : Nat) : Int) - (i : Int)) = ((n + m - i : Nat) : Int) := by rw [IntKind.wrap_i64]; omega
  refine wp_seq (wp_region_lit ?_)
  refine lo1 hc0 (by omega) (o_move (v := .int .i64 (n : Int)) h8) fun a hc => ?_
  refine lo1 hc (by omega) (o_move (v := .int .i64 (m : Int)) h7) fun a hc => ?_
  refine lo1 hc (by omega) (o_add rfl rfl w1) fun a hc => ?_
  refine lo1 hc (by omega) (o_move (v := .raw (.slice (some ⟨b, 0, none⟩) n c)) rfl) fun a hc => ?_
  refine lo1 hc (by omega) (o_capRaw (e := e) rfl) fun a hc => ?_
  refine lo1 hc (by omega) (o_gt rfl rfl) fun a hc => ?_
  refine wpList_nil ?_
  have hsl : ∀ k, k ≤ c → VR (own S) w S (.sl id o.gen 0 n k) (.slice (some ⟨b, 0, none⟩) n c) := fun k hk => .sl s hs (by rw [ok.gen]; exact Nat.le_refl _) rfl fun _ => ⟨c, hk, hlc, .inr ⟨b, arr, et, hp, by rw [Nat.zero_mul], hbl, by rw [Nat.zero_add, ← ok.sz]; exact hfit⟩⟩
  by_cases hr : n + m ≤ c
  · have e31 : a.eval (.tmp 31) = .bool false := ev_bool hc (x := .tmp 31) (by show AV.bool _ = _; congr 1; simp; omega)
    refine wp_cond_false e31 ?_
    refine aw_skip hroom S a w ⟨hc.heap, fun t => ?_, hc.size, hc.defers⟩ hb
    have hv0 : a.tmps.getD 0 undef = .slice (some ⟨b, 0, none⟩) n c := ev_raw hc (x := .tmp 0) rfl
    have hv := hc.env t
    by_cases e0 : t = 0
    · subst e0
      rw [hv0]
      exact hsl _ hr
    by_cases e1 : t = 1
    · subst e1; have := hv; simp only [get, Nat.beq] at this ⊢; rw [h1] at this; exact this
    by_cases e2 : t = 2
    · subst e2; have := hv; simp only [get, Nat.beq] at this ⊢; rw [h2] at this; exact this
    by_cases e7 : t = 7
    · subst e7; have := hv; simp only [get, Nat.beq] at this ⊢; rw [h7] at this; exact this
    by_cases e8 : t = 8
    · subst e8; have := hv; simp only [get, Nat.beq] at this ⊢; rw [h8] at this; exact this
    · rw [get_put_other _ _ (Ne.symm e0), get_put_other _ _ (Ne.symm e1), get_put_other _ _ (Ne.symm e2), get_put_other _ _ (Ne.symm e7), get_put_other _ _ (Ne.symm e8)]
      exact .junk
  · have e31 : a.eval (.tmp 31) = .bool true := ev_bool hc (x := .tmp 31) (by show AV.bool _ = _; congr 1; simp; omega)
    refine wp_cond_true e31 ?_
    refine wp_seq (wp_region_lit ?_)
    refine lo1 hc (by omega) (o_move (v := .raw (.slice (some ⟨b, 0, none⟩) n c)) rfl) fun a hc => ?_
    refine lo1 hc (by omega) (o_move (v := .int .i64 (i : Int)) h1) fun a hc => ?_
    refine lo1 hc (by omega) (o_sliceRaw (e := e) (agg := agg) (sz := sz) rfl rfl (by omega) (by omega)) fun a hc => ?_
    refine lo1 hc (by omega) (o_move (v := .int .i64 (n : Int)) h8) fun a hc => ?_
    refine lo1 hc (by omega) (o_move (v := .int .i64 (m : Int)) h7) fun a hc => ?_
    refine lo1 hc (by omega) (o_add rfl rfl w1) fun a hc => ?_
    refine lo1 hc (by omega) (o_move (v := .int .i64 (i : Int)) h1) fun a hc => ?_
    refine lo1 hc (by omega) (o_sub rfl rfl w2) fun a hc => ?_
    have e9 : i + (n + m - i) = n + m := by omega
    have hbb' : (i + (n + m - i)) * bytes ≤ 140737488355328 := by
      rw [e9]
      exact Nat.le_trans (Nat.mul_le_mul hbig hbb) (by decide)
    refine lo_appendZ (e := e) (agg := agg) (bytes := bytes) hzs hc (by omega) rfl rfl hid hs hp hsz hbl hfit (by omega) (by omega) (by omega) (by omega) (by omega) hbb' fun a S' w' hc hx' => ?_
    rw [e9] at hc
    refine lo1 hc (by omega) (o_assign (v := .sl H.length 0 0 (n + m) (n + m)) rfl) fun a hc => ?_
    refine wpList_nil ?_
    refine hgrow S' a w' ⟨hc.heap, fun t => ?_, hc.size, hc.defers⟩ (hb.trans hx')
    have hv0 : a.tmps.getD 0 undef = .slice (some ⟨b, 0, none⟩) n c := ev_raw hc (x := .tmp 0) rfl
    have hv := hc.env t
    by_cases e9 : t = 9
    · subst e9; exact hv
    by_cases e0 : t = 0
    · subst e0
      rw [hv0]
      exact (hsl n hlc).ext hx'
    by_cases e1 : t = 1
    · subst e1; have := hv; simp only [get, Nat.beq] at this ⊢; rw [h1] at this; exact this
    by_cases e2 : t = 2
    · subst e2; have := hv; simp only [get, Nat.beq] at this ⊢; rw [h2] at this; exact this
    by_cases e7 : t = 7
    · subst e7; have := hv; simp only [get, Nat.beq] at this ⊢; rw [h7] at this; exact this
    by_cases e8 : t = 8
    · subst e8; have := hv; simp only [get, Nat.beq] at this ⊢; rw [h8] at this; exact this
    · rw [get_put_other _ _ (Ne.symm e9), get_put_other _ _ (Ne.symm e0), get_put_other _ _ (Ne.symm e1), get_put_other _ _ (Ne.symm e2), get_put_other _ _ (Ne.symm e7), get_put_other _ _ (Ne.symm e8)]
      exact .junk
end
end Go.Av

namespace Go.Av
open Go.Proofs
set_option maxRecDepth 10000
set_option linter.unusedSimpArgs false
set_option linter.unusedVariables false
theorem w_copyL {P : Program} {N : Nat} {env : Env} {H0 L : Heap} {ty : TypeId} {t t' e : TypeId} {x y : Operand} {n k g off len cap sz full : Nat} {agg : Bool} {o : AObj} (ys : List (List AV)) [hu : SlI P t e] [TyI P e agg sz] (hx : aev env x = .sl (Lid n k) g off len cap) (hn : H0.length = n) (hk : L[k]? = some o) (hg : o.gen = g) (hsz : o.sz = sz) (hoff : off ≤ o.rows.length)
    (hy : SrcN P N env (H0 ++ L) y sz full ys) (hmin : Nat.min full len = ys.length) :
    V2 P N (.call { callee := .builtin .copy, args := #[x, y], argTypes := #[t, t'] }) ty env (H0 ++ L) (.int .i64 (ys.length : Int)) (H0 ++ L.set k { o with rows := o.rows.take off ++ ys ++ o.rows.drop (off + ys.length) }) := by
  subst hg
  have := o_copy (P := P) (N := N) (ty := ty) (t := t) (t' := t') (e := e) (agg := agg) hx (lk hn hk) hsz hoff hy hmin
  rwa [st hn] at this
theorem w_copyF {P : Program} {N : Nat} {env : Env} {H0 L : Heap} {ty : TypeId} {t t' e : TypeId} {x y : Operand} {id g off len cap sz full : Nat} {agg : Bool} {o : AObj} (ys : List (List AV)) [hu : SlI P t e] [TyI P e agg sz] (hx : aev env x = .sl id g off len cap) (hid : H0[id]? = some o) (hg : o.gen = g) (hsz : o.sz = sz) (hoff : off ≤ o.rows.length)
    (hy : SrcN P N env (H0 ++ L) y sz full ys) (hmin : Nat.min full len = ys.length) :
    V2 P N (.call { callee := .builtin .copy, args := #[x, y], argTypes := #[t, t'] }) ty env (H0 ++ L) (.int .i64 (ys.length : Int)) (H0.set id { o with rows := o.rows.take off ++ ys ++ o.rows.drop (off + ys.length) } ++ L) := by
  subst hg
  have := o_copy (P := P) (N := N) (ty := ty) (t := t) (t' := t') (e := e) (agg := agg) hx (lkF hid) hsz hoff hy hmin
  rwa [stF hid] at this
theorem ends_of {P : Program} {B : Base} {rs : List ResultVar} {env : Env} {H M : Heap} {v : AV} {R : AOut → Heap → Prop} (h : Ends P B rs (Ret v M) .ret env H) (hr : R (.ret v) M) : Ends P B rs R .ret env H := by
  obtain ⟨vs, M', h1, h2, h3, h4⟩ := h
  exact ⟨vs, M', h1, h2, by rw [h3, h4]; exact hr⟩
def InsR (v : AV) (H : Heap) (id : Nat) : AOut → Heap → Prop := fun o H' => ∃ q : AObj, o = .ret v ∧ H' = H.set id q
theorem held_Add_1 (x y : Held) (ia : Nat) (H : Heap) (hx : x.things.length ≤ 1000000) (hy : y.things.length ≤ 1000000) (ha : H[ia]? = some ⟨0, 4, [eHeld y]⟩) : AC Tryz.prog 204 [.agg (eHeld x), .pt ia 0 0 0] H (Ret (.bool (clash x y)) H) := by
  have hF := ha
  refine AC.body (N := 7) [.tmp 3] Tryz.func204 rfl rfl rfl (Nat.le_of_ble_eq_true rfl) fun B hB => ?_
  repeat (refine aw_seq ?_)
  refine Za1 ?_
  refine Z1y ?_
  repeat (first | refine then_nrm ?_ | refine aw_seq ?_)
  refine Z2i ?_
  refine Za9 ?_
  refine Zaa ?_
  refine Z9 ?_
  repeat (first | refine then_nrm ?_ | refine aw_ret ?_)
  exact Z7
theorem slices_IndexFuncG (F : Nat) [FnI Tryz.prog F] (caps : List AV) (p : Held → Bool) (l : List Held) (H : Heap) (hl1 : l.length ≤ 1000000) (hF : ∀ x ∈ l, ∀ L', AC Tryz.prog F (.agg (eHeld x) :: caps) (H ++ L') (Ret (.bool (p x)) (H ++ L'))) :
    AC Tryz.prog 165 [.pl (l.map eHeld), .fn (.func F) [] caps] H (Ret (.int .i64 (ixf p l)) H) := by
  refine AC.body (N := 19) [.tmp 4] Tryz.func165 rfl rfl rfl (Nat.le_of_ble_eq_true rfl) fun B hB => ?_
  repeat (refine aw_seq ?_)
  refine Z3 ?_
  repeat (first | refine then_nrm ?_ | refine aw_seq ?_)
  refine Z5t ?_
  repeat (first | refine then_nrm ?_ | refine aw_block ?_)
  refine aw_loop (G := Nat) (fun k => k ≤ l.length ∧ ∀ y ∈ l.take k, p y = false) (fun k => [(0, .pl (l.map eHeld)), (1, .fn (.func F) [] caps), (7, .int .i64 (l.length : Int)), (8, .int .i64 (k : Int))]) (fun _ => H ++ []) (fun k => l.length - k) 0 ⟨Nat.zero_le _, by simp⟩ (by repeat (first | exact Sub.nil | refine Sub.cons (by first | rfl | (simp [get]; done)) ?_)) (Fit.refl _ _) ?_
  rintro k ⟨hk, hno⟩
  repeat (refine aw_seq ?_)
  refine Z36 ?_
  repeat (first | refine then_nrm ?_ | refine aw_seq ?_)
  refine aw_cond rfl (fun hc => ?_) (fun hc => ?_)
  · have hlt : k < l.length := by simp at hc; omega
    obtain ⟨x, hx, hxl⟩ := get_in hlt
    have hr := map_get eHeld hx
    have hcall := hF x hxl
    repeat (first | refine then_nrm ?_ | refine aw_seq ?_ | refine aw_block ?_ | refine aw_skip ?_)
    refine Z13 ?_
    repeat (first | refine then_nrm ?_ | refine aw_seq ?_)
    refine Z1e ?_
    refine Z9n ?_
    refine Z7n ?_
    refine Zj4 ?_
    refine Z2s ?_
    repeat (refine then_nrm ?_)
    refine aw_cond rfl (fun hc => ?_) (fun hc => ?_)
    · repeat (refine aw_seq ?_)
      refine Z13 ?_
      repeat (first | refine then_nrm ?_ | refine then_ret ?_ | refine blk_ret ?_ | refine aw_ret ?_)
      rw [ixf_some (p := p) hx hc hno]
      exact Z7
    · repeat (first | refine then_nrm ?_ | refine blk_nrm ?_ | refine aw_skip ?_)
      refine Z3i ?_
      repeat (refine then_nrm ?_)
      refine ⟨k + 1, by omega, ⟨by omega, ?_⟩, (by repeat (first | exact Sub.nil | refine Sub.cons (by rfl) ?_)), .refl _ _⟩
      rw [take_snoc_get hx]
      intro y hy
      rcases List.mem_append.1 hy with h | h
      · exact hno y h
      · simp only [List.mem_singleton] at h
        subst h
        exact hc
  · have : k = l.length := by simp at hc; omega
    subst this
    rw [List.take_length] at hno
    rw [ixf_none hno]
    repeat (first | refine then_nrm ?_ | refine then_brk ?_ | refine blk_hit ?_ | refine aw_seq ?_ | refine aw_exit ?_)
    refine Z3 ?_
    repeat (first | refine then_nrm ?_ | refine aw_ret ?_)
    exact Z7
theorem slices_ContainsFuncG (F : Nat) [FnI Tryz.prog F] (caps : List AV) (p : Held → Bool) (l : List Held) (H : Heap) (hl1 : l.length ≤ 1000000) (hF : ∀ x ∈ l, ∀ L', AC Tryz.prog F (.agg (eHeld x) :: caps) (H ++ L') (Ret (.bool (p x)) (H ++ L'))) :
    AC Tryz.prog 126 [.pl (l.map eHeld), .fn (.func F) [] caps] H (Ret (.bool (l.any p)) H) := by
  refine AC.body (N := 9) [.tmp 4] Tryz.func126 rfl rfl rfl (Nat.le_of_ble_eq_true rfl) fun B hB => ?_
  repeat (refine aw_seq ?_)
  refine Za ?_
  repeat (first | refine then_nrm ?_ | refine aw_seq ?_)
  refine Z2r ?_
  refine Z1d ?_
  refine ao2 (by rintro _ ⟨⟩; decide) (V2.call (slices_IndexFuncG F caps p l _ hl1 (fun x hx L' => by rw [List.append_assoc]; exact hF x hx _)) rfl) ?_
  refine Z1c ?_
  refine Z9o ?_
  repeat (first | refine then_nrm ?_ | refine aw_ret ?_)
  rw [← ixf_nonneg]
  exact Z7
set_option maxHeartbeats 0 in
theorem slices_InsertH (l : List Held) (h : Held) (i id g iv gv : Nat) (H : Heap) (hid : H[id]? = some ⟨g, 4, l.map eHeld⟩) (hiv : H[iv]? = some ⟨gv, 4, [eHeld h]⟩) (hne : iv ≠ id) (hi : i ≤ l.length) (hl : l.length ≤ 1000) :
    AC Tryz.prog 205 [.sl id g 0 l.length l.length, .int .i64 (i : Int), .sl iv gv 0 1 1] H (InsR (.pl ((l.take i ++ h :: l.drop i).map eHeld)) H id) := by
  have hF := hid
  have hlm : (l.map eHeld).length = l.length := by simp
  refine AC.body (N := 95) [.tmp 6] Tryz.func205 rfl rfl rfl (Nat.le_of_ble_eq_true rfl) fun B hB => ?_
  repeat (refine aw_seq ?_)
  refine Z2p ?_
  repeat (first | refine then_nrm ?_ | refine aw_seq ?_)
  refine Z79 ?_
  refine Zjr ?_
  refine ao_nil ?_
  repeat (first | refine then_nrm ?_ | refine aw_seq ?_)
  refine Z78 ?_
  refine ao1 (by decide) (w_lens rfl (lkF hiv) rfl) ?_
  refine Z2 ?_
  repeat (first | refine then_nrm ?_ | refine aw_seq ?_)
  refine Zv ?_
  refine Z10 ?_
  repeat (refine then_nrm ?_)
  refine aw_cond rfl (fun hc => ?_) (fun hc => ?_)
  · simp at hc
  clear hc
  repeat (first | refine then_nrm ?_ | refine aw_seq ?_ | refine aw_skip ?_)
  refine Z78 ?_
  refine Zgb ?_
  refine Z2 ?_
  repeat (first | refine then_nrm ?_ | refine aw_seq ?_)
  refine Z1o ?_
  refine Z10 ?_
  repeat (refine then_nrm ?_)
  refine aw_cond rfl (fun hc => ?_) (fun hc => ?_)
  · obtain rfl : i = l.length := by simp at hc; omega
    repeat (refine aw_seq ?_)
    refine Zgc ?_
    refine ao2 (by rintro _ ⟨⟩; decide) (w_appendF (l.length + 1) rfl hF rfl rfl (Src.sl (o := ⟨gv, 4, [eHeld h]⟩) rfl (lkF hiv) rfl rfl rfl) rfl (by simp) (by simp; omega) (by simp; omega) (by simp)) ?_
    refine Z7c ?_
    try dsimp only [put]
    have hF2 : (H.set id ⟨g + 1, 4, (l.map eHeld).take l.length ++ List.take 1 (List.drop 0 [eHeld h])⟩)[id]? = some ⟨g + 1, 4, (l.map eHeld).take l.length ++ List.take 1 (List.drop 0 [eHeld h])⟩ := List.getElem?_set_self (List.getElem?_eq_some_iff.1 hid).1
    repeat (refine then_nrm ?_)
    refine aw_freeze (o := ⟨g + 1, 4, (l.map eHeld).take l.length ++ List.take 1 (List.drop 0 [eHeld h])⟩) (ys := (l.take l.length ++ h :: l.drop l.length).map eHeld) 6 rfl (lkF hF2) ?_ (by simp) (helds_bel 0 _) ?_
    · rw [List.take_of_length_le (by simp), List.drop_length, List.map_append, List.take_of_length_le (by simp), List.take_of_length_le (by simp)]
      simp
    rw [stF hF2, List.set_set]
    refine aw_ret ?_
    refine ends_of (M := H.set id ⟨g + 1 + 1, 4, []⟩) ?_ ⟨_, rfl, rfl⟩
    exact e_doneF hB (r_tmp rfl .nil) rfl rfl (by simp) (hB.heap.set _ _ (by simp))
  have hil : i < l.length := by simp at hc; omega
  clear hc
  refine aw_skip ?_
  refine then_nrm ?_
  refine aw_seq ?_
  refine aw_insert (N := 95) (v := .sl iv gv 0 1 1) (n := l.length) (m := 1) (i := i) (e := 60) (sz := 4) (bytes := 48) (by decide) (by rfl) (by rfl) (by rfl) (by rfl) (by rfl) (lkF hF) (by rfl) (by rfl) (by rfl) (by simp) hil (by omega) (by omega) (by omega) ?_ ?_
  ·
    repeat (first | refine then_nrm ?_ | refine aw_seq ?_)
    refine Z78 ?_
    refine Z1u ?_
    refine ao1 (by decide) (o_add (r := ((l.length + 1 : Nat) : Int)) rfl rfl (by rw [show (l.length : Int) + ((1 : Nat) : Int) = ((l.length + 1 : Nat) : Int) by omega]; exact wrap64_ok (by omega) (by omega))) ?_
    refine ao1 (by decide) (w_slices rfl (lkF hF) rfl rfl .none (.some rfl rfl) (by omega) (by omega)) ?_
    refine Z7c ?_
    refine Z2l ?_
    repeat (first | refine then_nrm ?_ | refine aw_seq ?_)
    refine Zgc ?_
    refine Z1u ?_
    refine ao1 (by decide) (o_add (r := ((i + 1 : Nat) : Int)) rfl rfl (by rw [show (i : Int) + ((1 : Nat) : Int) = ((i + 1 : Nat) : Int) by omega]; exact wrap64_ok (by omega) (by omega))) ?_
    refine Zjr ?_
    refine ao1 (by decide) (o_overlaps (tS := 25) (tR := 4) Tryz.func220 (by kernel_rfl) (by kernel_rfl) (by kernel_rfl) (by kernel_rfl) rfl (lkF hiv) rfl rfl (lkF hF) rfl hne (by omega) (by omega) rfl) ?_
    refine Z2j ?_
    repeat (refine then_nrm ?_)
    refine aw_cond rfl (fun hc => ?_) (fun hc => ?_)
    · clear hc
      have e1 : ((l.map eHeld).take (0 + (i + 1))).length = i + 1 := by simp; omega
      have e2 : ((l.map eHeld).drop (0 + i)).take (l.length - i) = (l.drop i).map eHeld := by
        rw [Nat.zero_add, List.map_drop, List.take_of_length_le (by simp)]
      have e3 : ((l.drop i).map eHeld).length = l.length - i := by simp
      repeat (refine aw_seq ?_)
      refine Zjs ?_
      refine Z9r ?_
      refine Z7h ?_
      refine Zjt ?_
      refine aqp 4 rfl (by decide +kernel) (by decide) (fun G => w_slices rfl (lkF hF) rfl rfl (.some rfl rfl) .none (by omega) (by omega)) ?_
      refine Zjl ?_
      refine Zjm ?_
      refine Zju ?_
      refine aqs 8 rfl (by decide +kernel) (by exact fun _ => ⟨_, rfl⟩) (by rintro _ ⟨⟩; decide) (w_copyF ((l.drop i).map eHeld) rfl hF rfl rfl (by simp; omega) (SrcN.sl (n := l.length - i) (o := ⟨g, 4, l.map eHeld⟩) rfl (lkF hF) rfl rfl (by omega) e2 e3) (by rw [e3]; simp [Nat.min_def] <;> omega)) ?_
      refine Z5z ?_
      try dsimp only [put]
      have e4 : (l.map eHeld).take (0 + (i + 1)) ++ (l.drop i).map eHeld ++ (l.map eHeld).drop (0 + (i + 1) + ((l.drop i).map eHeld).length) = (l.take i ++ [(l[i]'hil)] ++ l.drop i).map eHeld := by
        have h1 : (l.map eHeld).take (0 + (i + 1)) = (l.take i ++ [(l[i]'hil)]).map eHeld := by rw [Nat.zero_add, ← List.map_take, List.take_succ_eq_append_getElem hil]
        rw [h1, show (l.map eHeld).drop (0 + (i + 1) + ((l.drop i).map eHeld).length) = [] from List.drop_eq_nil_of_le (by simp; omega), List.append_nil]
        exact List.map_append.symm
      rw [e4]
      have hl2 : (l.take i ++ [(l[i]'hil)] ++ l.drop i).length = l.length + 1 := by simp; omega
      have e7 : (l.take i ++ [(l[i]'hil)] ++ l.drop i).take i = l.take i := by rw [List.append_assoc, List.take_append_of_le_length (by simp; omega), List.take_take, Nat.min_self]
      have e8 : (l.take i ++ [(l[i]'hil)] ++ l.drop i).drop (i + 1) = l.drop i := by
        have : (l.take i ++ [(l[i]'hil)]).length = i + 1 := by simp; omega
        rw [← this, List.drop_left]
      generalize l.take i ++ [(l[i]'hil)] ++ l.drop i = m at *
      have hF2 : (H.set id ⟨g, 4, m.map eHeld⟩)[id]? = some ⟨g, 4, m.map eHeld⟩ := List.getElem?_set_self (List.getElem?_eq_some_iff.1 hid).1
      have hiv2 : (H.set id ⟨g, 4, m.map eHeld⟩)[iv]? = some ⟨gv, 4, [eHeld h]⟩ := by rw [List.getElem?_set_ne (Ne.symm hne)]; exact hiv
      repeat (first | refine then_nrm ?_ | refine aw_seq ?_)
      refine Z79 ?_
      refine ao1 (by decide) (w_slices rfl (lkF hF2) rfl rfl (.some rfl rfl) .none (by omega) (by omega)) ?_
      refine Z77 ?_
      refine ao2 (by rintro _ ⟨⟩; decide) (w_copyF [eHeld h] rfl hF2 rfl rfl (by simp; omega) (SrcN.sl (n := 1) (o := ⟨gv, 4, [eHeld h]⟩) rfl (lkF hiv2) rfl rfl (Nat.le_refl _) rfl rfl) (by simp [Nat.min_def] <;> omega)) ?_
      refine ao_nil ?_
      try dsimp only [put, List.length_cons, List.length_nil, Nat.reduceAdd]
      rw [List.set_set]
      have e9 : (m.map eHeld).take (0 + i) ++ [eHeld h] ++ (m.map eHeld).drop (0 + i + 1) = (l.take i ++ h :: l.drop i).map eHeld := by
        rw [Nat.zero_add, ← List.map_take, e7, ← List.map_drop, e8]
        simp
      rw [e9]
      generalize hy : l.take i ++ h :: l.drop i = y at *
      have hyl : y.length = l.length + 1 := by rw [← hy]; simp; omega
      have hF3 : (H.set id ⟨g, 4, y.map eHeld⟩)[id]? = some ⟨g, 4, y.map eHeld⟩ := List.getElem?_set_self (List.getElem?_eq_some_iff.1 hid).1
      repeat (first | refine then_nrm ?_ | refine aw_seq ?_)
      refine Z7f ?_
      repeat (refine then_nrm ?_)
      refine aw_freeze (o := ⟨g, 4, y.map eHeld⟩) (ys := y.map eHeld) 6 rfl (lkF hF3) (by rw [List.drop_zero, List.take_of_length_le (by simp; omega)]) (by simp; omega) (helds_bel 0 _) ?_
      rw [stF hF3, List.set_set]
      refine aw_ret ?_
      refine ends_of (M := H.set id ⟨g + 1, 4, []⟩) ?_ ⟨_, rfl, rfl⟩
      exact e_doneF hB (r_tmp rfl .nil) rfl rfl (by simp) (hB.heap.set _ _ (by simp))
    · simp at hc
  · rw [show (H ++ ([] : Heap)).length = Lid H.length 0 by simp [Lid], List.append_nil]
    have e1 : ((l.map eHeld).take i).length = i := by simp; omega
    repeat (refine aw_seq ?_)
    refine Z79 ?_
    refine ao1 (by decide) (w_slices rfl (lk rfl rfl) rfl rfl (.some rfl rfl) .none (by omega) (by omega)) ?_
    refine Z77 ?_
    refine ao2 (by rintro _ ⟨⟩; decide) (w_copyL [eHeld h] rfl rfl rfl rfl rfl (by simp; omega) (SrcN.sl (n := 1) (o := ⟨gv, 4, [eHeld h]⟩) rfl (lkF hiv) rfl rfl (Nat.le_refl _) rfl rfl) (by simp [Nat.min_def]; omega)) ?_
    refine ao_nil ?_
    try dsimp only [put, List.length_cons, List.length_nil, Nat.reduceAdd, List.set_cons_zero]
    have e2 : ((l.map eHeld).drop (0 + i)).take (l.length - i) = (l.drop i).map eHeld := by
      rw [Nat.zero_add, List.map_drop, List.take_of_length_le (by simp)]
    have e3 : ((l.drop i).map eHeld).length = l.length - i := by simp
    rw [show ∀ zs : List AV, ((l.map eHeld).take i ++ List.replicate (l.length + 1 - i) zs).take (0 + i) ++ [eHeld h] ++ ((l.map eHeld).take i ++ List.replicate (l.length + 1 - i) zs).drop (0 + i + 1) = (l.map eHeld).take i ++ [eHeld h] ++ List.replicate (l.length - i) zs from fun zs => by
      rw [Nat.zero_add, List.take_append_of_le_length (by omega), List.take_of_length_le (by omega), List.drop_append, List.drop_eq_nil_of_le (by omega), List.nil_append, List.drop_replicate, e1, show l.length + 1 - i - (i + 1 - i) = l.length - i by omega]]
    repeat (first | refine then_nrm ?_ | refine aw_seq ?_)
    refine Zjs ?_
    refine Zjv ?_
    refine Z9r ?_
    refine Z7h ?_
    refine Zjt ?_
    refine aqp 4 rfl (by decide +kernel) (by decide) (fun G => w_slices rfl (lk rfl rfl) rfl rfl (.some rfl rfl) .none (by omega) (by omega)) ?_
    refine Zjl ?_
    refine Zjm ?_
    refine Zju ?_
    refine aqs 8 rfl (by decide +kernel) (by exact fun _ => ⟨_, rfl⟩) (by rintro _ ⟨⟩; decide) (w_copyL ((l.drop i).map eHeld) rfl rfl rfl rfl rfl (by simp; omega) (SrcN.sl (n := l.length - i) (o := ⟨g, 4, l.map eHeld⟩) rfl (lkF hF) rfl rfl (by omega) e2 e3) (by rw [e3]; simp [Nat.min_def] <;> omega)) ?_
    refine Z5z ?_
    refine Z5w ?_
    rw [show ∀ zs : List AV, ((l.map eHeld).take i ++ [eHeld h] ++ List.replicate (l.length - i) zs).take (0 + (i + 1)) ++ (l.drop i).map eHeld ++ ((l.map eHeld).take i ++ [eHeld h] ++ List.replicate (l.length - i) zs).drop (0 + (i + 1) + ((l.drop i).map eHeld).length) = (l.take i ++ h :: l.drop i).map eHeld from fun zs => by
      have h1 : ((l.map eHeld).take i ++ [eHeld h]).length = i + 1 := by simp; omega
      rw [Nat.zero_add, show ((l.map eHeld).take i ++ [eHeld h] ++ List.replicate (l.length - i) zs).drop (i + 1 + ((l.drop i).map eHeld).length) = [] from List.drop_eq_nil_of_le (by simp; omega), List.append_nil, show ((l.map eHeld).take i ++ [eHeld h] ++ List.replicate (l.length - i) zs).take (i + 1) = (l.map eHeld).take i ++ [eHeld h] by rw [← h1, List.take_left]]
      simp]
    generalize hy : l.take i ++ h :: l.drop i = y at *
    have hyl : y.length = l.length + 1 := by rw [← hy]; simp; omega
    repeat (first | refine then_nrm ?_ | refine aw_seq ?_)
    refine Z7f ?_
    repeat (refine then_nrm ?_)
    refine aw_freezeL (ys := y.map eHeld) 6 rfl rfl rfl rfl (by rw [List.drop_zero, List.take_of_length_le (by simp; omega)]) (by simp; omega) (helds_bel 0 _) ?_
    refine aw_ret ?_
    refine ends_of (M := H) ?_ ⟨⟨g, 4, l.map eHeld⟩, rfl, (set_same hid).symm⟩
    exact Z7
end Go.Av

namespace Go.Av
open Go.Proofs
set_option maxRecDepth 10000
set_option linter.unusedSimpArgs false
set_option linter.unusedVariables false
set_option maxHeartbeats 0 in
theorem held_Add (l : List Held) (h : Held) (H : Heap) (hw : HW l) (hh : h.things.length ≤ 1000000) : AC Tryz.prog 178 [.pl (l.map eHeld), .agg (eHeld h)] H (Ret (.tup [.pl ((heldAdd l h).1.map eHeld), .int .i64 (heldAdd l h).2]) H) := by
  have hw1 := hw.1
  refine AC.body (N := 46) [.tmp 4, .tmp 5] Tryz.func178 rfl rfl rfl (Nat.le_of_ble_eq_true rfl) fun B hB => ?_
  repeat (refine aw_seq ?_)
  refine Za1 ?_
  refine Z2n ?_
  refine Z2 ?_
  refine Z1x ?_
  repeat (first | refine then_nrm ?_ | refine aw_seq ?_)
  refine Z2r ?_
  refine Zgd ?_
  refine Z7c ?_
  refine Zge ?_
  repeat (first | refine then_nrm ?_ | refine aw_seq ?_)
  refine aw_out 18 (.bool (!(heldR l && hmay h))) ?_ ?_
  · refine Z2q ?_
    refine Zc1 ?_
    refine Z4n ?_
    refine ao_split rfl rfl (fun hg3 => ?_) (fun hg3 => ?_)
    · refine Zjw ?_
      exact Zft
    · refine Z41 ?_
      refine ao_y rfl rfl (by decide) (V2.call (held_may _ _ (by assumption)) rfl) ?_
      refine Zfu ?_
      exact Zft
  repeat (refine then_nrm ?_)
  refine aw_cond rfl (fun hc => ?_) (fun hc => ?_)
  · have he : heldAdd l h = (l, 1) := by rw [heldAdd, if_pos hc]
    rw [he]
    repeat (refine aw_seq ?_)
    refine Zg6 ?_
    try dsimp only
    repeat (refine then_nrm ?_)
    refine Zgf ?_
    exact Zg8
  have hyes : heldR l = true ∧ hmay h = true := by simpa only [Bool.not_eq_false', Bool.and_eq_true] using hc
  have hs := heldR_sorted hyes.1
  have hc1 := hc
  clear hc
  repeat (first | refine then_nrm ?_ | refine aw_seq ?_ | refine aw_skip ?_)
  refine Z2r ?_
  refine Z20 ?_
  refine Zc6 ?_
  refine Z54 ?_
  refine Z2l ?_
  repeat (first | refine then_nrm ?_ | refine aw_seq ?_ | refine aw_block ?_)
  refine Z1r ?_
  refine Z9 ?_
  repeat (refine then_nrm ?_)
  refine aw_cond rfl (fun hc => ?_) (fun hc => ?_)
  · have he : heldAdd l h = (l, 7) := by rw [heldAdd, if_neg (by rw [hc1]; decide), if_pos hc]
    rw [he]
    repeat (refine aw_seq ?_)
    refine Zg6 ?_
    try dsimp only
    repeat (refine then_nrm ?_)
    refine Zgf ?_
    exact Zg8
  have hc2 := hc
  clear hc
  repeat (refine aw_seq ?_)
  refine aw_out 30 (.bool (decide (l.length = 256) || l.any (fun x => clash x h))) ?_ ?_
  · refine Z5a ?_
    refine Z3r ?_
    refine ao_split rfl rfl (fun hg3 => ?_) (fun hg3 => ?_)
    · refine Z2a ?_
      refine Zh ?_
      exact Zh8
    · refine Z7j ?_
      refine Zjf ?_
      refine ao_y rfl rfl (by decide) (V2.call (slices_ContainsFuncG 204 [.pt (Lid H.length 0) 0 0 0] (fun x => clash x h) l _ hw1 (fun x hx L' => held_Add_1 x h (Lid H.length 0) _ (hw.2 x hx) hh (lkF (lk rfl rfl)))) rfl) ?_
      refine Zn ?_
      exact Zh8
  repeat (refine then_nrm ?_)
  refine aw_cond rfl (fun hc => ?_) (fun hc => ?_)
  · have he : heldAdd l h = (l, 5) := by rw [heldAdd, if_neg (by rw [hc1]; decide), if_neg (by rw [hc2]; decide), if_pos hc]
    rw [he]
    repeat (refine aw_seq ?_)
    refine Zg6 ?_
    try dsimp only
    repeat (refine then_nrm ?_)
    refine Zgf ?_
    exact Zg8
  have he : heldAdd l h = (l.take (heldPos l h.id) ++ h :: l.drop (heldPos l h.id), 0) := by rw [heldAdd, if_neg (by rw [hc1]; decide), if_neg (by rw [hc2]; decide), if_neg (by rw [hc]; decide)]
  rw [he]
  have h256 : l.length ≤ 256 := by have := hyes.1; simp only [heldR, Bool.and_eq_true, decide_eq_true_eq] at this; exact this.1
  have hpos : heldPos l h.id ≤ l.length := by unfold heldPos; exact (List.takeWhile_prefix _).length_le
  generalize heldPos l h.id = k at *
  generalize hy : l.take k ++ h :: l.drop k = y at *
  clear hc he hc1 hc2
  repeat (first | refine then_nrm ?_ | refine blk_nrm ?_ | refine aw_seq ?_ | refine aw_skip ?_)
  refine aw_region ?_
  refine ao1 (by decide) (o_move (v := .sl (Lid H.length 1) l.length 0 l.length l.length) rfl) ?_
  refine ao1 (by decide) (o_move (v := .int .i64 (k : Int)) rfl) ?_
  refine Z2h ?_
  refine ao2 (by rintro _ ⟨⟩; decide) (V2.call (held_copied h _ hh) rfl) ?_
  refine ao2 (by rintro _ ⟨⟩; decide) (o_buildSlice1L (sz := 4) (k := 2) rfl (by decide) (by decide) rfl rfl rfl rfl rfl) ?_
  refine ao_call rfl (by decide) (slices_InsertH l h k (Lid H.length 1) l.length (Lid H.length 2) 0 _ (lk rfl rfl) (lk rfl rfl) (by unfold Lid; omega) hpos (by omega)) ?_ ?_
  · rintro v H' ⟨q, e, rfl⟩
    injection e with e
    subst e
    rw [st rfl, hy]
    refine ao1 (by decide) (o_assign (v := .pl (y.map eHeld)) rfl) ?_
    refine ao1 (by decide) (o_assign (v := .int .i64 0) rfl) ?_
    refine ao_nil ?_
    try dsimp only [put, AV.cells, List.cons_append, List.nil_append, List.set_cons_succ, List.set_cons_zero]
    exact Zg8
  · rintro v H' ⟨q, e, _⟩
    cases e
end Go.Av

namespace Go.Av
open Go
set_option linter.unusedVariables false
section
variable {P : Program}
theorem ac_rowI {f : FuncId} {zs ds : List Int} {id g cap : Nat} {H : Heap} {v : AV} (val : Option Addr → Nat → Value)
    (hid : H[id]? = some ⟨g, 1, zs.map fun z => [.int .i64 z]⟩) (hl : ds.length = zs.length)
    (h1 : ∀ blk off c w, Sort.Holds (Value.int .i64) w blk off zs.toArray → blk < w.heap.size → zs.length ≤ c → Calls P f #[.slice (some ⟨blk, off, none⟩) zs.length c] w fun e w' => e = .returned (val (some ⟨blk, off, none⟩) c) ∧ ∃ n os, w' = Sort.grow (Sort.putRow (Value.int .i64) (Sort.ahead w n) blk off ds.toArray) os)
    (h0 : zs = [] → ∀ a c w, Calls P f #[.slice a 0 c] w fun e w' => e = .returned (val a c) ∧ w' = w)
    (hv : ∀ S w ad c, VR (own S) w S (.sl id g 0 zs.length zs.length) (.slice ad zs.length c) → VR (own S) w S v (val ad c)) :
    AC P f [.sl id g 0 zs.length cap] H (Ret v (H.set id ⟨g, 1, ds.map fun z => [.int .i64 z]⟩)) := by
  intro S w cargs hH hargs
  obtain ⟨hal, hag⟩ := hargs
  have hsz : cargs.size = 1 := by simpa using hal.symm
  obtain ⟨u, rfl⟩ : ∃ u, cargs = #[u] := by
    match cargs, hsz with
    | ⟨[u]⟩, _ => exact ⟨u, rfl⟩
  have hu := hag 0 _ u rfl rfl
  obtain ⟨s, hs, ok⟩ := hH.slot hid
  have hgen : s.gen = g := ok.gen.symm
  have hssz : s.sz = 1 := ok.sz.symm
  cases hu with
  | sl s' hs' hg' h1c hok =>
    rw [hs] at hs'
    obtain rfl := Option.some.inj hs'
    obtain ⟨c, hcc, hlc, hcase⟩ := hok hgen
    rcases hcase with ⟨hc0, a, rfl⟩ | ⟨b, arr, ty, hp, rfl, hb, hfit⟩
    · have hz : zs = [] := List.eq_nil_of_length_eq_zero (by omega)
      subst hz
      have hd : ds = [] := List.eq_nil_of_length_eq_zero (by simpa using hl)
      subst hd
      refine (h0 rfl a 0 w).mono ?_
      rintro e w' ⟨rfl, rfl⟩
      refine ⟨.ret v, _, S, ⟨rfl, rfl⟩, .ret (hv S w' a 0 ?_), ?_, Ext.refl S w'⟩
      · exact .sl s hs (by omega) rfl fun _ => ⟨0, Nat.le_refl _, Nat.le_refl _, .inl ⟨rfl, a, rfl⟩⟩
      · have : H.set id ⟨g, 1, List.map (fun z => [AV.int .i64 z]) []⟩ = H := by
          apply List.ext_getElem?
          intro i
          by_cases ei : id = i
          · subst ei
            rw [List.getElem?_set_self (List.getElem?_eq_some_iff.1 hid).1, hid]
          · rw [List.getElem?_set_ne ei]
        rw [this]
        exact hH
    · rw [Nat.zero_mul]
      rw [Nat.zero_mul] at h1c
      obtain ⟨arr', ty', h2, hrow⟩ := ok.row hp
      rw [hb] at h2
      injection h2 with h2
      injection h2 with e1 e2
      subst e1
      have hfit' : zs.length ≤ arr.size := by rw [hssz, Nat.zero_add, Nat.mul_one] at hfit; omega
      have hget : ∀ j, (hj : j < zs.length) → arr[j]? = some (.int .i64 zs[j]) := by
        intro j hj
        have hr : ((⟨g, 1, zs.map fun z => [.int .i64 z]⟩ : AObj).rows)[j]? = some [.int .i64 zs[j]] := by simp [hj]
        obtain ⟨k1, k2⟩ := hrow.2 j _ hr
        obtain ⟨_, u, k3, k4⟩ := k2 0 _ rfl
        simp only [Nat.mul_one, Nat.add_zero] at k3
        rw [k3]
        cases k4
        rfl
      have hholds : Sort.Holds (Value.int .i64) w b 0 zs.toArray := by
        intro j hj
        have hj' : j < zs.length := by simpa using hj
        refine ⟨?_, by simp [World.frozen?, hb]⟩
        rw [cell_of_row w b (0 + j) arr _ _ hb, Nat.zero_add, hget j hj']
        simp [hj']
      have hlt : b < w.heap.size := own_lt hH ⟨id, s, hs, hp⟩
      refine (h1 b 0 c w hholds hlt hlc).mono ?_
      rintro e w' ⟨rfl, n, os, rfl⟩
      have hrowsz : (Sort.putCells (Value.int .i64) 0 ds.toArray arr).size = arr.size := by simp [Sort.putCells]
      have hw := hH.write (rows' := ds.map fun z => [.int .i64 z]) (arr' := Sort.putCells (Value.int .i64) 0 ds.toArray arr) hid hs hp hb hrowsz (by
        refine ⟨by rw [hrowsz]; simp only [List.length_map, Nat.mul_one]; omega, fun i r hr => ?_⟩
        rw [List.getElem?_map] at hr
        cases hd : ds[i]? with
        | none => simp [hd] at hr
        | some z =>
          rw [hd] at hr
          obtain rfl := Option.some.inj hr
          refine ⟨rfl, fun j v hv' => ?_⟩
          have hi : i < ds.length := (List.getElem?_eq_some_iff.1 hd).1
          have hz : ds[i] = z := (List.getElem?_eq_some_iff.1 hd).2
          have hj : j = 0 := by
            have := (List.getElem?_eq_some_iff.1 hv').1
            simpa using this
          subst hj
          obtain rfl := Option.some.inj hv'
          refine ⟨rfl, .int .i64 z, ?_, .int⟩
          have hi2 : i < arr.size := by omega
          simp [Sort.putCells, hi2, hi, hz])
      have hheap : ∀ k, k < w.heap.size → (Sort.grow (Sort.putRow (Value.int .i64) (Sort.ahead w n) b 0 ds.toArray) os).heap[k]? = (w.setRow b (Sort.putCells (Value.int .i64) 0 ds.toArray arr)).heap[k]? := by
        intro k hk
        rw [Sort.heap_grow_old _ _ (by simpa [Sort.ahead] using hk)]
        by_cases e : k = b
        · subst e
          rw [setRow_heap w k arr _ ty (0, 0) hb]
          simp [Sort.putRow, Sort.mapBlock, Sort.ahead, Array.getElem?_modify, hb, Sort.onCells]
        · rw [setRow_other w b k _ e]
          simp [Sort.putRow, Sort.mapBlock, Sort.ahead, Array.getElem?_modify, Ne.symm e]
      have hx2 : Ext S (w.setRow b (Sort.putCells (Value.int .i64) 0 ds.toArray arr)) S (Sort.grow (Sort.putRow (Value.int .i64) (Sort.ahead w n) b 0 ds.toArray) os) := by
        refine ⟨rfl, rfl, rfl, ⟨by simp [Sort.grow, Sort.putRow, Sort.mapBlock, Sort.ahead], fun k hk ho => ⟨ho, ?_⟩, fun k a t hk => ?_⟩, SExt.refl S⟩
        · exact hheap k (by simpa using hk)
        · have hk' : k < w.heap.size := by have := (Array.getElem?_eq_some_iff.1 hk).1; simpa using this
          exact ⟨a, by rw [hheap k hk']; exact hk, rfl⟩
      have hh := same_heap hw.1 hx2 (fun k hk => hheap k (by simpa using hk))
      refine ⟨.ret v, _, S, ⟨rfl, rfl⟩, .ret (hv S _ _ c ?_), hh, hw.2.trans hx2⟩
      have hvr : VR (own S) w S (.sl id g 0 zs.length zs.length) (.slice (some ⟨b, 0, none⟩) zs.length c) := .sl s hs (by omega) rfl fun _ => ⟨c, hlc, hlc, .inr ⟨b, arr, ty, hp, by rw [Nat.zero_mul], hb, hfit⟩⟩
      exact (hvr.ext hw.2).ext hx2
end
end Go.Av

namespace Go.Proofs
open Go.Shelf
def Tryz.laysSlN43_f227_ren : Go.Shelf.Ren := ⟨fun | 43 => 227 | n => n, fun | 22 => 227 | 23 => 2 | 3 => 3 | 4 => 4 | 0 => 0 | n => n, fun | n => n⟩
theorem Tryz.laysSlN43_f227 : Go.Proofs.SlLaysN.n43 Tryz.prog Tryz.laysSlN43_f227_ren := {
  mixed := by kernel_rfl
  f43 := ⟨Tryz.f227.name, by decide, Tryz.func227.trans (congrArg some (by kernel_rfl))⟩
  t0 := Tryz.underlying0
  a0 := Tryz.isAgg0
  z0 := Tryz.sizeOf0
  v0 := Tryz.zeroValue0
  t3 := Tryz.underlying3
  a3 := Tryz.isAgg3
  z3 := Tryz.sizeOf3
  v3 := Tryz.zeroValue3
  t4 := Tryz.underlying4
  a4 := Tryz.isAgg4
  z4 := Tryz.sizeOf4
  v4 := Tryz.zeroValue4
  t22 := Tryz.underlying227
  a22 := Tryz.isAgg227
  z22 := Tryz.sizeOf227
  v22 := Tryz.zeroValue227
  t23 := Tryz.underlying2
  a23 := Tryz.isAgg2
  z23 := Tryz.sizeOf2
  v23 := Tryz.zeroValue2
  i23 := by kernel_rfl }
open Go.RowKit Go.Lib Go.Sort in
theorem Tryz.slices_Compact_int (blk off cap : Nat) (zs : List Int) (w : World) (hH : Holds (Value.int .i64) w blk off zs.toArray) (hsz : zs.length ≤ 9223372036854775807) (hcap : zs.length ≤ cap) :
    Calls Tryz.prog 227 #[.slice (some ⟨blk, off, none⟩) zs.length cap] w fun e w' => e = .returned (.slice (some ⟨blk, off, none⟩) (Lib.compact zs).length cap) ∧ ∃ q, w' = putRow (Value.int .i64) (Sort.ahead w q) blk off (Lib.compact zs ++ List.replicate (zs.length - (Lib.compact zs).length) 0).toArray := AnyG.slices_Compact_int Tryz.laysSlN43_f227 blk off cap zs w hH hsz hcap
open Go.RowKit Go.Lib Go.Sort in
theorem Tryz.slices_Compact_int_empty (a : Option Addr) (cap : Nat) (w : World) :
    Calls Tryz.prog 227 #[.slice a 0 cap] w fun e w' => e = .returned (.slice a 0 cap) ∧ w' = w := AnyG.slices_Compact_int_empty Tryz.laysSlN43_f227 a cap w
def Tryz.laysSlM5_f226_ren : Go.Shelf.Ren := ⟨fun | 5 => 226 | 8 => 233 | 7 => 232 | 19 => 245 | 20 => 246 | 10 => 236 | 11 => 237 | 12 => 238 | 13 => 239 | 14 => 240 | 15 => 241 | 16 => 242 | 17 => 243 | 18 => 244 | 30 => 247 | 31 => 248 | 32 => 249 | 33 => 250 | 34 => 251 | 35 => 252 | 40 => 253 | n => n, fun | 23 => 227 | 25 => 2 | 3 => 3 | 32 => 191 | 22 => 227 | 0 => 0 | 44 => 250 | 46 => 109 | 4 => 4 | 36 => 243 | 35 => 242 | 41 => 115 | 5 => 5 | 9 => 9 | 53 => 251 | 57 => 78 | 63 => 256 | 64 => 257 | n => n, fun | n => n⟩
theorem Tryz.laysSlM5_f226 : Go.Proofs.SlLaysM.n5 Tryz.prog Tryz.laysSlM5_f226_ren := {
  mixed := by kernel_rfl
  f5 := ⟨Tryz.f226.name, by decide, Tryz.func226.trans (congrArg some (by kernel_rfl))⟩
  f7 := ⟨Tryz.f232.name, by decide, Tryz.func232.trans (congrArg some (by kernel_rfl))⟩
  f8 := Tryz.func233.trans (congrArg some (by kernel_rfl))
  f10 := ⟨Tryz.f236.name, by decide, Tryz.func236.trans (congrArg some (by kernel_rfl))⟩
  f11 := ⟨Tryz.f237.name, by decide, Tryz.func237.trans (congrArg some (by kernel_rfl))⟩
  f12 := ⟨Tryz.f238.name, by decide, Tryz.func238.trans (congrArg some (by kernel_rfl))⟩
  f13 := ⟨Tryz.f239.name, by decide, Tryz.func239.trans (congrArg some (by kernel_rfl))⟩
  f14 := ⟨Tryz.f240.name, by decide, Tryz.func240.trans (congrArg some (by kernel_rfl))⟩
  f15 := ⟨Tryz.f241.name, by decide, Tryz.func241.trans (congrArg some (by kernel_rfl))⟩
  f16 := ⟨Tryz.f242.name, by decide, Tryz.func242.trans (congrArg some (by kernel_rfl))⟩
  f17 := ⟨Tryz.f243.name, by decide, Tryz.func243.trans (congrArg some (by kernel_rfl))⟩
  f18 := ⟨Tryz.f244.name, by decide, Tryz.func244.trans (congrArg some (by kernel_rfl))⟩
  f19 := Tryz.func245.trans (congrArg some (by kernel_rfl))
  f20 := Tryz.func246.trans (congrArg some (by kernel_rfl))
  f30 := ⟨Tryz.f247.name, by decide, Tryz.func247.trans (congrArg some (by kernel_rfl))⟩
  f31 := Tryz.func248.trans (congrArg some (by kernel_rfl))
  f32 := Tryz.func249.trans (congrArg some (by kernel_rfl))
  f33 := ⟨Tryz.f250.name, by decide, Tryz.func250.trans (congrArg some (by kernel_rfl))⟩
  f34 := ⟨Tryz.f251.name, by decide, Tryz.func251.trans (congrArg some (by kernel_rfl))⟩
  f35 := ⟨Tryz.f252.name, by decide, Tryz.func252.trans (congrArg some (by kernel_rfl))⟩
  f40 := ⟨Tryz.f253.name, by decide, Tryz.func253.trans (congrArg some (by kernel_rfl))⟩
  t0 := Tryz.underlying0
  a0 := Tryz.isAgg0
  z0 := Tryz.sizeOf0
  v0 := Tryz.zeroValue0
  t3 := Tryz.underlying3
  a3 := Tryz.isAgg3
  z3 := Tryz.sizeOf3
  v3 := Tryz.zeroValue3
  t4 := Tryz.underlying4
  a4 := Tryz.isAgg4
  z4 := Tryz.sizeOf4
  v4 := Tryz.zeroValue4
  t5 := Tryz.underlying5
  a5 := Tryz.isAgg5
  z5 := Tryz.sizeOf5
  v5 := Tryz.zeroValue5
  t9 := Tryz.underlying9
  a9 := Tryz.isAgg9
  z9 := Tryz.sizeOf9
  v9 := Tryz.zeroValue9
  t22 := Tryz.underlying227
  a22 := Tryz.isAgg227
  z22 := Tryz.sizeOf227
  v22 := Tryz.zeroValue227
  t23 := Tryz.underlying227
  a23 := Tryz.isAgg227
  z23 := Tryz.sizeOf227
  v23 := Tryz.zeroValue227
  t25 := Tryz.underlying2
  a25 := Tryz.isAgg2
  z25 := Tryz.sizeOf2
  v25 := Tryz.zeroValue2
  t32 := Tryz.underlying191
  a32 := Tryz.isAgg191
  z32 := Tryz.sizeOf191
  v32 := Tryz.zeroValue191
  t35 := Tryz.underlying242
  a35 := Tryz.isAgg242
  z35 := Tryz.sizeOf242
  v35 := Tryz.zeroValue242
  t36 := Tryz.underlying243
  a36 := Tryz.isAgg243
  z36 := Tryz.sizeOf243
  v36 := Tryz.zeroValue243
  t41 := Tryz.underlying115
  a41 := Tryz.isAgg115
  z41 := Tryz.sizeOf115
  v41 := Tryz.zeroValue115
  t44 := Tryz.underlying250
  a44 := Tryz.isAgg250
  z44 := Tryz.sizeOf250
  v44 := Tryz.zeroValue250
  t46 := Tryz.underlying109
  a46 := Tryz.isAgg109
  z46 := Tryz.sizeOf109
  v46 := Tryz.zeroValue109
  t53 := Tryz.underlying251
  a53 := Tryz.isAgg251
  z53 := Tryz.sizeOf251
  v53 := Tryz.zeroValue251
  t57 := Tryz.underlying78
  a57 := Tryz.isAgg78
  z57 := Tryz.sizeOf78
  v57 := Tryz.zeroValue78
  t63 := Tryz.underlying256
  a63 := Tryz.isAgg256
  z63 := Tryz.sizeOf256
  v63 := Tryz.zeroValue256
  t64 := Tryz.underlying257
  a64 := Tryz.isAgg257
  z64 := Tryz.sizeOf257
  v64 := Tryz.zeroValue257 }
open Go.Sort Go.RowKit in
theorem Tryz.slices_Sort_int (blk off cap : Nat) (zs : List Int) (w : World) (hH : Holds (Value.int .i64) w blk off zs.toArray) (hblk : blk < w.heap.size) (hsz : zs.length < 4611686018427387904) :
    Calls Tryz.prog 226 #[.slice (some ⟨blk, off, none⟩) zs.length cap] w fun e w' =>
      e = .returned (.tuple #[]) ∧ ∃ n os, w' = grow (putRow (Value.int .i64) (Sort.ahead w n) blk off (zs.mergeSort fun x y => decide (x ≤ y)).toArray) os := AnyM.slices_Sort_int Tryz.laysSlM5_f226 blk off cap zs w hH hblk hsz
open Go.RowKit Go.Sort in
theorem Tryz.slices_Sort_int_none (p : Option Addr) (cap : Nat) (w : World) :
    Calls Tryz.prog 226 #[.slice p 0 cap] w fun e w' => e = .returned (.tuple #[]) ∧ w' = w := AnyM.slices_Sort_int_none Tryz.laysSlM5_f226 p cap w
end Go.Proofs

namespace Go.Av
theorem insU_mem (t : Int) : ∀ (l : List Int) (x : Int), x ∈ insU t l ↔ x = t ∨ x ∈ l
  | [], x => by simp [insU]
  | y :: l, x => by
    unfold insU
    split
    · simp
    · split
      · rename_i h1 h2
        subst h2
        simp
      · rw [List.mem_cons, insU_mem t l x, List.mem_cons]
        grind
theorem insU_sorted (t : Int) : ∀ (l : List Int), l.Pairwise (· < ·) → (insU t l).Pairwise (· < ·)
  | [], _ => by simp [insU]
  | y :: l, h => by
    have h' := List.pairwise_cons.1 h
    unfold insU
    split
    · rename_i h1
      exact List.pairwise_cons.2 ⟨fun x hx => by
        rcases List.mem_cons.1 hx with rfl | hx
        · exact h1
        · exact Int.lt_trans h1 (h'.1 x hx), h⟩
    · split
      · exact h
      · rename_i h1 h2
        refine List.pairwise_cons.2 ⟨fun x hx => ?_, insU_sorted t l h'.2⟩
        rcases (insU_mem t l x).1 hx with rfl | hx
        · omega
        · exact h'.1 x hx
theorem sortU_mem : ∀ (l : List Int) (x : Int), x ∈ sortU l ↔ x ∈ l
  | [], x => by simp [sortU]
  | y :: l, x => by
    show x ∈ insU y (sortU l) ↔ _
    rw [insU_mem, sortU_mem l x, List.mem_cons]
theorem sortU_sorted : ∀ (l : List Int), (sortU l).Pairwise (· < ·)
  | [] => by simp [sortU]
  | y :: l => insU_sorted y _ (sortU_sorted l)
theorem insU_len (t : Int) : ∀ (l : List Int), (insU t l).length ≤ l.length + 1
  | [] => by simp [insU]
  | y :: l => by
    unfold insU
    split
    · simp
    · split
      · simp
      · have := insU_len t l
        simp
        omega
theorem sortU_len : ∀ (l : List Int), (sortU l).length ≤ l.length
  | [] => by simp [sortU]
  | y :: l => by
    show (insU y (sortU l)).length ≤ _
    have := insU_len y (sortU l)
    have := sortU_len l
    simp
    omega
theorem compactUp_sorted (d : Array Int) (hs : ∀ i j, i < j → j < d.size → d[i]! ≤ d[j]!) : ∀ m, m ≤ d.size → (Lib.compactUpTo d m).Pairwise (· < ·) ∧ (∀ x, x ∈ Lib.compactUpTo d m ↔ ∃ j, j < m ∧ d[j]! = x)
  | 0, _ => by simp [Lib.compactUpTo]
  | m + 1, hm => by
    obtain ⟨h1, h2⟩ := compactUp_sorted d hs m (by omega)
    rw [Lib.compactUpTo_succ]
    by_cases hk : Lib.keeps d m = true
    · rw [if_pos hk]
      have hlt : ∀ x, x ∈ Lib.compactUpTo d m → x < d[m]! := by
        intro x hx
        obtain ⟨j, hj, rfl⟩ := (h2 x).1 hx
        simp only [Lib.keeps, decide_eq_true_eq] at hk
        rcases hk with rfl | hk
        · omega
        · have a1 : d[j]! ≤ d[m - 1]! := by
            rcases Nat.lt_or_ge j (m - 1) with h | h
            · exact hs j (m - 1) h (by omega)
            · have : j = m - 1 := by omega
              rw [this]; exact Int.le_refl _
          have a2 := hs (m - 1) m (by omega) (by omega)
          omega
      refine ⟨List.pairwise_append.2 ⟨h1, by simp, fun a ha b hb => ?_⟩, fun x => ?_⟩
      · simp only [List.mem_singleton] at hb
        subst hb
        exact hlt a ha
      · rw [List.mem_append, h2, List.mem_singleton]
        constructor
        · rintro (⟨j, hj, e⟩ | rfl)
          · exact ⟨j, by omega, e⟩
          · exact ⟨m, by omega, rfl⟩
        · rintro ⟨j, hj, e⟩
          rcases Nat.lt_or_ge j m with h | h
          · exact .inl ⟨j, h, e⟩
          · have : j = m := by omega
            subst this
            exact .inr e.symm
    · rw [if_neg hk, List.append_nil]
      refine ⟨h1, fun x => ?_⟩
      rw [h2]
      constructor
      · rintro ⟨j, hj, e⟩
        exact ⟨j, by omega, e⟩
      · rintro ⟨j, hj, e⟩
        rcases Nat.lt_or_ge j m with h | h
        · exact ⟨j, h, e⟩
        · have : j = m := by omega
          subst this
          simp only [Lib.keeps, decide_eq_true_eq, not_or, Decidable.not_not] at hk
          exact ⟨j - 1, by omega, by rw [← hk.2]; exact e⟩
theorem compact_len (zs : List Int) : (Lib.compact zs).length ≤ zs.length := by
  unfold Lib.compact Lib.compactUpTo
  rw [List.length_map]
  exact Nat.le_trans (List.length_filter_le _ _) (by simp)
theorem compact_sort (l : List Int) : Lib.compact (l.mergeSort fun x y => decide (x ≤ y)) = sortU l := by
  have hp : (l.mergeSort fun x y => decide (x ≤ y)).Pairwise (fun a b => decide (a ≤ b) = true) := List.pairwise_mergeSort (fun a b c h1 h2 => by simp only [decide_eq_true_eq] at *; omega) (fun a b => by simp only [Bool.or_eq_true, decide_eq_true_eq]; omega) l
  have hm : ∀ x, x ∈ (l.mergeSort fun x y => decide (x ≤ y)) ↔ x ∈ l := fun x => List.mem_mergeSort
  generalize (l.mergeSort fun x y => decide (x ≤ y)) = z at *
  have hs : ∀ i j, i < j → j < z.toArray.size → z.toArray[i]! ≤ z.toArray[j]! := by
    intro i j hij hj
    have hj' : j < z.length := by simpa using hj
    have := List.pairwise_iff_getElem.1 hp i j (by omega) hj' hij
    simp only [decide_eq_true_eq] at this
    simp [hj', show i < z.length by omega]
    exact this
  obtain ⟨h1, h2⟩ := compactUp_sorted z.toArray hs z.length (by simp)
  refine sorted_ext h1 (sortU_sorted l) fun x => ?_
  unfold Lib.compact
  rw [h2, sortU_mem, ← hm, List.mem_iff_getElem]
  constructor
  · rintro ⟨j, hj, e⟩
    exact ⟨j, hj, by simpa [hj] using e⟩
  · rintro ⟨j, hj, e⟩
    exact ⟨j, hj, by simpa [hj] using e⟩
end Go.Av

namespace Go.Av
open Go.Proofs
set_option maxRecDepth 10000
set_option linter.unusedSimpArgs false
set_option linter.unusedVariables false
def leI : Int → Int → Bool := fun x y => decide (x ≤ y)
theorem slices_SortI64 (zs : List Int) (id g : Nat) (H : Heap) (hid : H[id]? = some ⟨g, 1, zs.map eI⟩) (hl : zs.length ≤ 1000000) : AC Tryz.prog 226 [.sl id g 0 zs.length zs.length] H (Ret (.tup []) (H.set id ⟨g, 1, (zs.mergeSort leI).map eI⟩)) :=
  ac_rowI (fun _ _ => .tuple #[]) hid (by simp) (fun blk off c w hH hb hc => Tryz.slices_Sort_int blk off c zs w hH hb (by omega)) (fun hz a c w => Tryz.slices_Sort_int_none a c w) (fun S w ad c _ => .tup rfl (fun _ _ _ h => by simp at h))
theorem slices_CompactI64 (zs : List Int) (id g : Nat) (H : Heap) (hid : H[id]? = some ⟨g, 1, zs.map eI⟩) (hl : zs.length ≤ 1000000) : AC Tryz.prog 227 [.sl id g 0 zs.length zs.length] H (Ret (.sl id g 0 (Lib.compact zs).length (Lib.compact zs).length) (H.set id ⟨g, 1, (Lib.compact zs ++ List.replicate (zs.length - (Lib.compact zs).length) 0).map eI⟩)) := by
  have hle := compact_len zs
  refine ac_rowI (fun ad c => .slice ad (Lib.compact zs).length c) hid (by simp; omega) (fun blk off c w hH hb hc => ?_) (fun hz a c w => ?_) (fun S w ad c hv => ?_)
  · refine (Tryz.slices_Compact_int blk off c zs w hH (by omega) hc).mono ?_
    rintro e w' ⟨rfl, q, rfl⟩
    exact ⟨rfl, q, #[], by rw [Sort.grow_empty]⟩
  · subst hz
    exact Tryz.slices_Compact_int_empty a c w
  · cases hv with
    | sl s hs hg h1 h =>
      refine .sl s hs hg (by cases ad <;> rfl) fun e => ?_
      obtain ⟨c', hcc, hlc, hcase⟩ := h e
      rcases hcase with ⟨h0, a, he⟩ | ⟨b, arr, ty, hp, he, hb, hfit⟩
      · injection he with e1 e2 e3
        subst e1; subst e3
        have : (Lib.compact zs).length = 0 := by omega
        exact ⟨0, by omega, by omega, .inl ⟨rfl, ad, by rw [this]⟩⟩
      · injection he with e1 e2 e3
        subst e3
        exact ⟨c, by omega, by omega, .inr ⟨b, arr, ty, hp, by rw [e1], hb, hfit⟩⟩
set_option maxHeartbeats 0 in
theorem held_Ends (l : List Held) (frm : Int) (H : Heap) (hw : HW l) : AC Tryz.prog 218 [.pl (l.map eHeld), .int .i64 frm] H (Ret (.pl ((heldEnds l frm).map eI)) H) := by
  have hw1 := hw.1
  refine AC.body (N := 31) [.tmp 4] Tryz.func218 rfl rfl rfl (Nat.le_of_ble_eq_true rfl) fun B hB => ?_
  repeat (refine aw_seq ?_)
  refine Z2p ?_
  repeat (first | refine then_nrm ?_ | refine aw_seq ?_)
  refine Z2p ?_
  repeat (first | refine then_nrm ?_ | refine aw_seq ?_)
  refine Zc3 ?_
  repeat (refine then_nrm ?_)
  refine aw_cond rfl (fun hc => ?_) (fun hc => ?_)
  · have hno : heldR l = false := by simpa only [Bool.not_eq_true'] using hc
    rw [show heldEnds l frm = [] by rw [heldEnds, hno]; rfl]
    repeat (refine aw_seq ?_)
    refine Z2p ?_
    repeat (refine then_nrm ?_)
    refine aw_nslpl 4 rfl ?_
    exact Z7g
  have hyes : heldR l = true := by simpa only [Bool.not_eq_false'] using hc
  clear hc
  rw [show heldEnds l frm = sortU ((l.filter fun h => decide (frm < h.to)).map (·.to)) by rw [heldEnds, hyes]; rfl]
  repeat (first | refine then_nrm ?_ | refine aw_seq ?_ | refine aw_skip ?_)
  refine aw_ghostL (k := 0) 5 1 rfl (by decide) rfl ?_
  refine Z5t ?_
  refine Z9w ?_
  repeat (first | refine then_nrm ?_ | refine aw_block ?_)
  refine aw_loop (G := Nat) (fun k => k ≤ l.length) (fun k => [(1, .int .i64 frm), (5, .sl (Lid H.length 0) (((l.take k).filter fun h => decide (frm < h.to)).map (·.to)).length 0 (((l.take k).filter fun h => decide (frm < h.to)).map (·.to)).length (((l.take k).filter fun h => decide (frm < h.to)).map (·.to)).length), (11, .pl (l.map eHeld)), (12, .int .i64 (l.length : Int)), (13, .int .i64 (k : Int))]) (fun k => H ++ [⟨(((l.take k).filter fun h => decide (frm < h.to)).map (·.to)).length, 1, (((l.take k).filter fun h => decide (frm < h.to)).map (·.to)).map eI⟩]) (fun k => l.length - k) 0 (Nat.zero_le _) (by repeat (first | exact Sub.nil | refine Sub.cons (by first | rfl | (simp [get]; done)) ?_)) (.inl rfl) ?_
  intro k hk
  repeat (refine aw_seq ?_)
  refine Z36 ?_
  repeat (first | refine then_nrm ?_ | refine aw_seq ?_)
  refine aw_cond rfl (fun hc => ?_) (fun hc => ?_)
  · have hlt : k < l.length := by simpa using hc
    obtain ⟨x, hx, hxl⟩ := get_in hlt
    have hr := map_get eHeld hx
    have hst : (((l.take (k + 1)).filter fun h => decide (frm < h.to)).map (·.to)) = if frm < x.to then ((l.take k).filter fun h => decide (frm < h.to)).map (·.to) ++ [x.to] else ((l.take k).filter fun h => decide (frm < h.to)).map (·.to) := by
      rw [take_snoc_get hx, List.filter_append, List.map_append]
      by_cases h : frm < x.to <;> simp [h]
    have hle : (((l.take k).filter fun h => decide (frm < h.to)).map (·.to)).length ≤ k := by
      rw [List.length_map]
      exact Nat.le_trans (List.length_filter_le _ _) (by simp; omega)
    generalize ((l.take k).filter fun h => decide (frm < h.to)).map (·.to) = z at *
    clear hc
    repeat (first | refine then_nrm ?_ | refine aw_seq ?_ | refine aw_block ?_ | refine aw_skip ?_)
    refine Zca ?_
    refine Z9a ?_
    repeat (first | refine then_nrm ?_ | refine aw_seq ?_)
    refine Z4y ?_
    refine Z1s ?_
    refine Z32 ?_
    repeat (refine then_nrm ?_)
    refine aw_cond rfl (fun hc => ?_) (fun hc => ?_)
    · rw [if_pos (by simpa using hc)] at hst
      clear hc
      refine Z78 ?_
      refine Z20 ?_
      refine ao2 (by rintro _ ⟨⟩; decide) (g_lit1 (sz := 1) (v := .int .i64 x.to) (cs := eI x.to) rfl (by decide) (by decide) rfl rfl rfl rfl rfl) ?_
      refine ao2 (by rintro _ ⟨⟩; decide) (w_append rfl rfl rfl rfl rfl (Src.pl (ys := [eI x.to]) rfl (by simp)) rfl (by simp) (by simp) (by simp; omega) (by simp; omega)) ?_
      refine Z7c ?_
      refine Zjx ?_
      rw [List.take_of_length_le (by simp)]
      repeat (first | refine then_nrm ?_ | refine blk_nrm ?_)
      refine Z3i ?_
      repeat (refine then_nrm ?_)
      refine ⟨k + 1, by omega, by omega, by rw [hst, List.length_append]; exact (by repeat (first | exact Sub.nil | refine Sub.cons (by rfl) ?_)), ?_⟩
      rw [hst, List.length_append]
      refine Fit.loc hB (by rw [List.map_append]; rfl) (by repeat (first | exact EBel.nil | refine EBel.cons (by first | rfl | (simp [AV.bel, AV.bels, Lid]; done)) ?_)) ?_
      intro o ho r hr
      simp only [List.mem_singleton] at ho
      subst ho
      exact ints_bel _ _ r hr
    · rw [if_neg (by simpa using hc)] at hst
      clear hc
      repeat (first | refine then_nrm ?_ | refine blk_nrm ?_ | refine aw_skip ?_)
      refine Z3i ?_
      repeat (refine then_nrm ?_)
      refine ⟨k + 1, by omega, by omega, by rw [hst]; exact (by repeat (first | exact Sub.nil | refine Sub.cons (by rfl) ?_)), ?_⟩
      rw [hst]
      refine Fit.loc hB rfl (by repeat (first | exact EBel.nil | refine EBel.cons (by first | rfl | (simp [AV.bel, AV.bels, Lid]; done)) ?_)) ?_
      intro o ho r hr
      simp only [List.mem_singleton] at ho
      subst ho
      exact ints_bel _ _ r hr
  · have : k = l.length := by simp at hc; omega
    subst this
    rw [List.take_length]
    have hle : ((l.filter fun h => decide (frm < h.to)).map (·.to)).length ≤ l.length := by
      rw [List.length_map]
      exact List.length_filter_le _ _
    generalize (l.filter fun h => decide (frm < h.to)).map (·.to) = z at *
    clear hc
    repeat (first | refine then_nrm ?_ | refine then_brk ?_ | refine blk_hit ?_ | refine aw_seq ?_ | refine aw_exit ?_)
    refine Z78 ?_
    refine ao2 (by rintro _ ⟨⟩; decide) (V2.callS (slices_SortI64 z (Lid H.length 0) z.length _ (lk rfl rfl) (by omega)) rfl) ?_
    refine Z98 ?_
    have hzl : (z.mergeSort leI).length = z.length := by simp
    have hcs : Lib.compact (z.mergeSort leI) = sortU z := compact_sort z
    have hul := sortU_len z
    rw [← hcs] at hul ⊢
    generalize z.mergeSort leI = y at *
    rw [← hzl] at hle hul ⊢
    repeat (first | refine then_nrm ?_ | refine aw_seq ?_)
    refine Z78 ?_
    refine ao2 (by rintro _ ⟨⟩; decide) (V2.callo3 (slices_CompactI64 y (Lid H.length 0) y.length _ (lk rfl rfl) (by omega)) rfl rfl) ?_
    refine Z7c ?_
    refine Z5w ?_
    repeat (refine then_nrm ?_)
    refine aw_freezeL (ys := (Lib.compact y).map eI) 4 rfl rfl rfl rfl (by rw [List.drop_zero, ← List.map_take, List.take_left]) (by simp) (ints_bel 0 _) ?_
    exact Z7g
end Go.Av

namespace Go.Av
open Go.Proofs
set_option maxRecDepth 10000
set_option linter.unusedSimpArgs false
set_option linter.unusedVariables false
theorem w_appendT {P : Program} {N : Nat} {env : Env} {H0 L : Heap} {ty : TypeId} {t t' e : TypeId} {x y : Operand} {n k g len cap sz bytes : Nat} {agg : Bool} {zs : List AV} {o : AObj} {ys : List (List AV)} (m : Nat) [hu : SlI P t e] [NiI P t'] [TyI P e agg sz] [hz : ZcI P e zs] [ByI P e bytes]
    (hx : aev env x = .sl (Lid n k) g 0 len cap) (hn : H0.length = n) (hk : L[k]? = some o) (hg : o.gen = g) (hsz : o.sz = sz) (hy : Src P N env (H0 ++ L) y sz ys) (hz' : zs.length = sz) (hlen : len ≤ o.rows.length) (h63 : len + ys.length ≤ 9223372036854775807) (hb : (len + ys.length) * bytes ≤ 140737488355328) (hm : m ≤ max cap (len + ys.length)) :
    V2 P N (.call { callee := .builtin .append, args := #[x, y], argTypes := #[t, t'] }) ty env (H0 ++ L) (.sl (Lid n k) (g + 1) 0 (len + ys.length) m) (H0 ++ L.set k ⟨g + 1, o.sz, o.rows.take len ++ ys⟩) := by
  have := o_appendT (P := P) (N := N) (ty := ty) (t := t) (t' := t') (e := e) (agg := agg) (zs := zs) (bytes := bytes) m hx (lk hn hk) hg hsz hy hz' hlen h63 hb hm
  rwa [st hn] at this
set_option maxHeartbeats 0 in
theorem slot_busy (l : List Held) (frm to : Int) (H : Heap) (hw : HW l) : ACT Tryz.prog KD 228 [.pl (l.map eHeld), .int .i64 frm, .int .i64 to] H (Ret (.pl ((busyL l frm to).map eInt)) H) := by
  have hw1 := hw.1
  refine ACT.body (N := 29) [.tmp 6] Tryz.func228 rfl rfl rfl (Nat.le_of_ble_eq_true rfl) fun B hB => ?_
  repeat (refine aw_seq ?_)
  refine Z2p ?_
  repeat (first | refine then_nrm ?_ | refine aw_seq ?_)
  refine Z2p ?_
  repeat (first | refine then_nrm ?_ | refine aw_seq ?_)
  refine Z5t ?_
  repeat (first | refine then_nrm ?_ | refine aw_block ?_)
  refine aw_nslpl 7 rfl ?_
  refine aw_loop (G := Nat) (fun k => k ≤ l.length) (fun k => [(KT, KD.av), (1, .int .i64 frm), (2, .int .i64 to), (7, .pl ((busyL (l.take k) frm to).map eInt)), (10, .pl (l.map eHeld)), (11, .int .i64 (l.length : Int)), (12, .int .i64 (k : Int))]) (fun _ => H ++ []) (fun k => l.length - k) 0 (Nat.zero_le _) (by repeat (first | exact Sub.nil | refine Sub.cons (by first | rfl | (simp [get]; done)) ?_)) (Fit.refl _ _) ?_
  intro k hk
  repeat (refine aw_seq ?_)
  refine Z36 ?_
  repeat (first | refine then_nrm ?_ | refine aw_seq ?_)
  refine aw_cond rfl (fun hc => ?_) (fun hc => ?_)
  · have hlt : k < l.length := by simp at hc; omega
    obtain ⟨x, hx, hxl⟩ := get_in hlt
    have hr := map_get eHeld hx
    have hxw := hw.2 x hxl
    have hstep := busyL_step hx frm to
    have hbl := busyL_le (l.take k) frm to
    repeat (first | refine then_nrm ?_ | refine aw_seq ?_ | refine aw_block ?_ | refine aw_skip ?_)
    refine Zca ?_
    refine Z7s ?_
    repeat (first | refine then_nrm ?_ | refine aw_seq ?_)
    refine Z3p ?_
    refine Z20 ?_
    refine Z1u ?_
    refine Za7 ?_
    refine Z32 ?_
    repeat (refine then_nrm ?_)
    refine aw_cond rfl (fun hc => ?_) (fun hc => ?_)
    · rw [if_pos hc] at hstep
      refine Z2r ?_
      refine Z2z ?_
      refine Zcb ?_
      refine Z9z ?_
      refine Z55 ?_
      repeat (first | refine then_nrm ?_ | refine blk_nrm ?_)
      refine Z3i ?_
      repeat (refine then_nrm ?_)
      refine ⟨k + 1, by omega, by omega, by rw [hstep]; exact (by repeat (first | exact Sub.nil | refine Sub.cons (by rfl) ?_)), Fit.loc hB (L := []) rfl (by repeat (first | exact EBel.nil | refine EBel.cons (by rfl) ?_)) (fun o ho => by simp at ho)⟩
    · rw [if_neg (by simp [hc])] at hstep
      repeat (first | refine then_nrm ?_ | refine blk_nrm ?_ | refine aw_skip ?_)
      refine Z3i ?_
      repeat (refine then_nrm ?_)
      refine ⟨k + 1, by omega, by omega, by rw [hstep]; exact (by repeat (first | exact Sub.nil | refine Sub.cons (by rfl) ?_)), Fit.loc hB (L := []) rfl (by repeat (first | exact EBel.nil | refine EBel.cons (by rfl) ?_)) (fun o ho => by simp at ho)⟩
  · have : k = l.length := by simp at hc; omega
    subst this
    rw [List.take_length]
    repeat (first | refine then_nrm ?_ | refine then_brk ?_ | refine blk_hit ?_ | refine aw_seq ?_ | refine aw_exit ?_)
    refine Z2r ?_
    refine Z9z ?_
    repeat (first | refine then_nrm ?_ | refine aw_ret ?_)
    exact Z7
set_option maxHeartbeats 0 in
theorem slot_fitsC (g : List Thing) (use : List Int) (l : List Held) (s : Spec) (t til : Int) (H : Heap) (hw : HW l) (hg : g.length ≤ 1000000) (hu : use.length ≤ 1000000) :
    ACT Tryz.prog KD 219 [.pl (g.map eThing), .pl (use.map eI), .pl (l.map eHeld), .agg (eSpec s), .int .i64 t, .int .i64 til] H (Ret (.tup [.pl ((fitsAt g use l s t til).1.map eI), .bool (fitsAt g use l s t til).2]) H) := by
  have hbl := busyL_le l t (sEnds s t)
  have hsl : (sless use (busyL l t (sEnds s t))).length ≤ 1000000 := setl_le _ _ _
  refine ACT.body (N := 41) [.tmp 12, .tmp 13] Tryz.func219 rfl rfl rfl (Nat.le_of_ble_eq_true rfl) fun B hB => ?_
  repeat (refine aw_seq ?_)
  refine Z1w ?_
  refine Z2n ?_
  refine Z1y ?_
  repeat (first | refine then_nrm ?_ | refine aw_seq ?_)
  refine Z2i ?_
  refine Z6 ?_
  refine ao_ret (spec_Ends _ _ _) rfl (by decide) ?_
  refine Z2 ?_
  repeat (first | refine then_nrm ?_ | refine aw_seq ?_)
  refine aw_out 29 (.bool (!tm t || decide (t = 4611686018427387904) || decide (til < sEnds s t))) ?_ ?_
  · refine Z6 ?_
    refine Z3j ?_
    refine Z4n ?_
    refine ao_split rfl rfl (fun hg3 => ?_) (fun hg3 => ?_)
    · refine Z4o ?_
      refine Zjw ?_
      exact Zjy
    · refine Z4b ?_
      refine Z26 ?_
      refine ao_split rfl rfl (fun hg7 => ?_) (fun hg7 => ?_)
      · refine Zjw ?_
        exact Zjy
      · refine Ze ?_
        refine Z4s ?_
        refine Zm ?_
        exact Zjy
  repeat (refine then_nrm ?_)
  refine aw_cond rfl (fun hc => ?_) (fun hc => ?_)
  · have he : fitsAt g use l s t til = ([], false) := by rw [fitsAt, if_pos hc]
    rw [he]
    repeat (refine aw_seq ?_)
    refine Zib ?_
    try dsimp only
    repeat (refine then_nrm ?_)
    refine aw_nslpl 12 rfl ?_
    exact Zg8
  have he : fitsAt g use l s t til = mfind g (sless use (busyL l t (sEnds s t))) s := by rw [fitsAt, if_neg (by rw [hc]; decide)]
  rw [he]
  repeat (first | refine then_nrm ?_ | refine aw_seq ?_ | refine aw_skip ?_)
  refine Z7u ?_
  refine Z5e ?_
  refine Zha ?_
  refine Zjz ?_
  refine Z9t ?_
  refine Z18 ?_
  refine aq02 5 rfl (by decide +kernel) (by decide) (fun _ => V2.callT (slot_busy l t (sEnds s t) _ hw) rfl rfl) ?_
  refine aq02 6 rfl (by decide +kernel) (by decide) (fun _ => V2.callT (set_Less use (busyL l t (sEnds s t)) (by omega) (by omega) _) rfl rfl) ?_
  refine Zhb ?_
  refine aq02 8 rfl (by decide +kernel) (by decide) (fun _ => V2.callT (match_Find g (sless use (busyL l t (sEnds s t))) s _ hg hsl) rfl rfl) ?_
  refine Zk0 ?_
  refine Zk1 ?_
  refine aq0 11 rfl (by decide +kernel) (by decide) (fun _ => o_assign (v := .pl _) rfl) ?_
  refine aq0 12 rfl (by decide +kernel) (by decide) (fun _ => o_assign (v := .bool _) rfl) ?_
  refine Z19 ?_
  repeat (first | refine then_nrm ?_ | refine aw_ret ?_)
  exact Z4e
theorem firstOf_skip {g : List Thing} {use : List Int} {l : List Held} {s : Spec} {til : Int} : ∀ {k : Nat} {ts : List Int}, (∀ t ∈ ts.take k, (fitsAt g use l s t til).2 = false) → firstOfL g use l s til ts = firstOfL g use l s til (ts.drop k)
  | 0, ts, _ => rfl
  | k + 1, [], _ => rfl
  | k + 1, t :: ts, h => by
    have h1 := h t (by simp)
    have h2 := firstOf_skip (k := k) (ts := ts) (fun x hx => h x (by simp [hx]))
    show (if (fitsAt g use l s t til).2 then _ else _) = _
    rw [if_neg (by rw [h1]; decide)]
    exact h2
set_option maxHeartbeats 0 in
theorem slot_FirstC (g : List Thing) (use : List Int) (l : List Held) (s : Spec) (frm til : Int) (H : Heap) (hw : HW l) (hg : g.length ≤ 1000000) (hu : use.length ≤ 1000000) :
    ACT Tryz.prog KD 202 [.pl (g.map eThing), .pl (use.map eI), .pl (l.map eHeld), .agg (eSpec s), .int .i64 frm, .int .i64 til] H (Ret (.tup [.int .i64 (slotFirst g use l s frm til).1, .pl ((slotFirst g use l s frm til).2.1.map eI), .bool (slotFirst g use l s frm til).2.2]) H) := by
  have hw1 := hw.1
  refine ACT.body (N := 47) [.tmp 12, .tmp 13, .tmp 14] Tryz.func202 rfl rfl rfl (Nat.le_of_ble_eq_true rfl) fun B hB => ?_
  repeat (refine aw_seq ?_)
  refine Z1w ?_
  refine Z1 ?_
  refine Z2n ?_
  refine Z1y ?_
  repeat (first | refine then_nrm ?_ | refine aw_seq ?_)
  refine Zc3 ?_
  repeat (refine then_nrm ?_)
  refine aw_cond rfl (fun hc => ?_) (fun hc => ?_)
  · have he : slotFirst g use l s frm til = (0, [], false) := by rw [slotFirst, if_pos hc]
    rw [he]
    repeat (refine aw_seq ?_)
    refine aw_region ?_
    refine Z1 ?_
    refine Z2n ?_
    refine Z9 ?_
    try dsimp only
    repeat (refine then_nrm ?_)
    refine aw_nslpl 13 rfl ?_
    exact Zh5
  have he : slotFirst g use l s frm til = firstOfL g use l s til (frm :: heldEnds l frm) := by rw [slotFirst, if_neg (by rw [hc]; decide)]
  rw [he]
  have hel : (heldEnds l frm).length ≤ 1000000 := by
    unfold heldEnds
    split
    · refine Nat.le_trans (sortU_len _) ?_
      rw [List.length_map]
      exact Nat.le_trans (List.length_filter_le _ _) hw1
    · simp
  clear hc he
  repeat (first | refine then_nrm ?_ | refine aw_seq ?_ | refine aw_skip ?_)
  refine Zv ?_
  refine ao2 (by rintro _ ⟨⟩; decide) (o_buildSlice1L (sz := 1) (k := 1) (v := .int .i64 frm) (cs := eI frm) rfl (by decide) (by decide) rfl rfl rfl rfl rfl) ?_
  refine Z9n ?_
  refine ao_ret (held_Ends _ _ _ (by assumption)) rfl (by decide) ?_
  refine ao2 (by rintro _ ⟨⟩; decide) (w_appendT (1 + ((heldEnds l frm).map eI).length) rfl rfl rfl rfl rfl (Src.pl (ys := (heldEnds l frm).map eI) rfl (ints_len (heldEnds l frm))) rfl (by simp) (by simp; omega) (by simp; omega) (by simp)) ?_
  refine Zi5 ?_
  refine Z33 ?_
  try dsimp only [put, Nat.reduceAdd, List.cons_append, List.nil_append, List.take_succ_cons, List.take_zero, List.set_cons_succ, List.set_cons_zero]
  generalize heldEnds l frm = es at *
  repeat (first | refine then_nrm ?_ | refine aw_block ?_)
  refine aw_freezeL (ys := (frm :: es).map eI) 27 rfl rfl rfl rfl (by rw [List.drop_zero, List.take_of_length_le (by simp; omega)]; rfl) (by simp; omega) (ints_bel 0 _) ?_
  rw [show (1 + (es.map eI).length : Nat) = (frm :: es).length by simp; omega]
  have htl : (frm :: es).length ≤ 1000001 := by simp; omega
  generalize frm :: es = ts at *
  refine aw_loop (G := Nat) (fun k => k ≤ ts.length ∧ ∀ t ∈ ts.take k, (fitsAt g use l s t til).2 = false) (fun k => [(KT, KD.av), (0, .pl (g.map eThing)), (1, .pl (use.map eI)), (2, .pl (l.map eHeld)), (9, .pt (Lid H.length 0) 0 0 0), (5, .int .i64 til), (27, .pl (ts.map eI)), (28, .int .i64 (ts.length : Int)), (29, .int .i64 (k : Int))]) (fun _ => H ++ [⟨0, 7, [eSpec s]⟩]) (fun k => ts.length - k) 0 ⟨Nat.zero_le _, by simp⟩ (by repeat (first | exact Sub.nil | refine Sub.cons (by rfl) ?_)) (Fit.loc hB rfl (by repeat (first | exact EBel.nil | refine EBel.cons (by first | rfl | (simp [AV.bel, AV.bels, Lid]; done)) ?_)) ?_) ?_
  · intro o ho r hr
    simp only [List.mem_singleton] at ho
    subst ho
    simp only [List.mem_singleton] at hr
    subst hr
    rfl
  rintro k ⟨hk, hno⟩
  repeat (refine aw_seq ?_)
  refine Z36 ?_
  repeat (first | refine then_nrm ?_ | refine aw_seq ?_)
  refine aw_cond rfl (fun hc => ?_) (fun hc => ?_)
  · have hlt : k < ts.length := by simpa using hc
    obtain ⟨t, ht, htl⟩ := get_in hlt
    have hr := map_get eI ht
    clear hc
    repeat (first | refine then_nrm ?_ | refine aw_seq ?_ | refine aw_block ?_ | refine aw_skip ?_)
    refine Z3b ?_
    repeat (first | refine then_nrm ?_ | refine aw_seq ?_)
    refine Z6d ?_
    refine Z2q ?_
    refine Z2h ?_
    refine Z1u ?_
    refine ao2 (by rintro _ ⟨⟩; decide) (V2.callT (slot_fitsC g use l s t til _ hw hg hu) rfl rfl) ?_
    refine Zgr ?_
    refine Z51 ?_
    refine Z2u ?_
    refine Z9o ?_
    repeat (first | refine then_nrm ?_ | refine aw_seq ?_)
    refine Z1r ?_
    refine ao_nil ?_
    repeat (refine then_nrm ?_)
    refine aw_cond rfl (fun hc => ?_) (fun hc => ?_)
    · have he : firstOfL g use l s til ts = (t, (fitsAt g use l s t til).1, true) := by
        rw [firstOf_skip hno, List.drop_eq_getElem_cons hlt, show ts[k] = t from (List.getElem?_eq_some_iff.1 ht).2]
        show (if (fitsAt g use l s t til).2 then _ else _) = _
        rw [if_pos hc]
      rw [he]
      repeat (refine aw_seq ?_)
      refine Zv ?_
      refine Z2q ?_
      refine Z1 ?_
      refine Z2u ?_
      refine Z9 ?_
      try dsimp only
      repeat (first | refine then_nrm ?_ | refine then_ret ?_ | refine blk_ret ?_ | refine aw_ret ?_)
      exact Zh4
    · repeat (first | refine then_nrm ?_ | refine blk_nrm ?_ | refine aw_skip ?_)
      refine Z3i ?_
      repeat (refine then_nrm ?_)
      refine ⟨k + 1, by omega, ⟨by omega, ?_⟩, (by repeat (first | exact Sub.nil | refine Sub.cons (by rfl) ?_)), .inl rfl⟩
      rw [take_snoc_get ht]
      intro y hy
      rcases List.mem_append.1 hy with h | h
      · exact hno y h
      · simp only [List.mem_singleton] at h
        subst h
        exact hc
  · have : k = ts.length := by simp at hc; omega
    subst this
    have he : firstOfL g use l s til ts = (0, [], false) := by rw [firstOf_skip hno, List.drop_length]; rfl
    rw [he]
    repeat (first | refine then_nrm ?_ | refine then_brk ?_ | refine blk_hit ?_ | refine aw_seq ?_ | refine aw_exit ?_)
    refine aw_region ?_
    refine Z1 ?_
    refine Z2n ?_
    refine Z9 ?_
    try dsimp only
    repeat (refine then_nrm ?_)
    refine aw_nslpl 13 rfl ?_
    exact Zh5
end Go.Av

namespace Go.Av
open Go.Proofs
set_option maxRecDepth 10000
set_option linter.unusedSimpArgs false
set_option linter.unusedVariables false
abbrev eWant (w : Want) : List AV := .int .i64 w.id :: eSpec w.spec
theorem mfind_len (g : List Thing) (free : List Int) (s : Spec) : (mfind g free s).1.length ≤ 256 := by
  unfold mfind
  split
  · simp
  · split
    · simp
    · exact mfindL_le free s _
theorem fitsAt_len (g : List Thing) (use : List Int) (l : List Held) (s : Spec) (t til : Int) : (fitsAt g use l s t til).1.length ≤ 256 := by
  unfold fitsAt
  split
  · simp
  · exact mfind_len _ _ _
theorem firstOfL_len (g : List Thing) (use : List Int) (l : List Held) (s : Spec) (til : Int) : ∀ ts, (firstOfL g use l s til ts).2.1.length ≤ 256
  | [] => by simp [firstOfL]
  | t :: ts => by
    unfold firstOfL
    split
    · exact fitsAt_len _ _ _ _ _ _
    · exact firstOfL_len g use l s til ts
theorem slotFirst_len (g : List Thing) (use : List Int) (l : List Held) (s : Spec) (frm til : Int) : (slotFirst g use l s frm til).2.1.length ≤ 256 := by
  unfold slotFirst
  split
  · simp
  · exact firstOfL_len _ _ _ _ _ _
theorem HW.add {l : List Held} {h : Held} (hw : HW l) (hh : h.things.length ≤ 1000000) : HW (heldAdd l h).1 := by
  unfold heldAdd
  split
  · exact hw
  · rename_i h1
    split
    · exact hw
    · split
      · exact hw
      · have hr : heldR l = true := by cases e : heldR l <;> simp [e] at h1 ⊢
        have h256 : l.length ≤ 256 := by simp only [heldR, Bool.and_eq_true, decide_eq_true_eq] at hr; exact hr.1
        refine ⟨?_, fun x hx => ?_⟩
        · simp only [List.length_append, List.length_take, List.length_cons, List.length_drop]
          omega
        · rcases List.mem_append.1 hx with hx | hx
          · exact hw.2 x (List.mem_of_mem_take hx)
          · rcases List.mem_cons.1 hx with rfl | hx
            · exact hh
            · exact hw.2 x (List.mem_of_mem_drop hx)
theorem pickL_cons {g : List Thing} {use : List Int} {now til policy depth : Int} {s : PickS} {w : Want} {ws : List Want} {t : Int} {th : List Int} {ok : Bool} (hf : slotFirst g use s.l w.spec now til = (t, th, ok)) :
    pickL g use now til policy depth s (w :: ws) = if !ok then pickL g use now til policy depth s ws
      else if t ≠ now ∧ policy = 1 then (s.begun, s.kept, 0)
      else if t ≠ now ∧ deep policy depth ≤ (s.kept.length : Int) then pickL g use now til policy depth s ws
      else if (heldAdd s.l ⟨w.id, th, t, sEnds w.spec t⟩).2 ≠ 0 then ([], [], (heldAdd s.l ⟨w.id, th, t, sEnds w.spec t⟩).2)
      else if t = now then pickL g use now til policy depth ⟨(heldAdd s.l ⟨w.id, th, t, sEnds w.spec t⟩).1, s.begun ++ [⟨w.id, th, t, sEnds w.spec t⟩], s.kept⟩ ws
      else pickL g use now til policy depth ⟨(heldAdd s.l ⟨w.id, th, t, sEnds w.spec t⟩).1, s.begun, s.kept ++ [⟨w.id, th, t, sEnds w.spec t⟩]⟩ ws := by
  rw [pickL, hf]
theorem pick_deep (policy depth : Int) (H : Heap) : AC Tryz.prog 203 [.int .i64 policy, .int .i64 depth] H (Ret (.int .i64 (deep policy depth)) H) := by
  refine AC.body (N := 11) [.tmp 4] Tryz.func203 rfl rfl rfl (Nat.le_of_ble_eq_true rfl) fun B hB => ?_
  repeat (refine aw_seq ?_)
  refine Z3 ?_
  repeat (first | refine then_nrm ?_ | refine aw_seq ?_)
  refine Zv ?_
  refine ao_nil ?_
  repeat (first | refine then_nrm ?_ | refine aw_seq ?_ | refine aw_block ?_)
  refine Z3q ?_
  repeat (refine then_nrm ?_)
  refine aw_cond rfl (fun hc => ?_) (fun hc => ?_)
  · rw [show deep policy depth = 1 by rw [deep, if_pos (by simpa using hc)]]
    repeat (refine aw_seq ?_)
    refine Z3 ?_
    repeat (first | refine then_nrm ?_ | refine then_ret ?_ | refine blk_ret ?_ | refine aw_ret ?_)
    exact Z7
  · have h2 : ¬ policy = 2 := by simpa using hc
    clear hc
    repeat (refine aw_seq ?_)
    refine Z3q ?_
    repeat (refine then_nrm ?_)
    refine aw_cond rfl (fun hc => ?_) (fun hc => ?_)
    · rw [show deep policy depth = depth by rw [deep, if_neg h2, if_pos (by simpa using hc)]]
      repeat (refine aw_seq ?_)
      refine Z13 ?_
      repeat (first | refine then_nrm ?_ | refine then_ret ?_ | refine blk_ret ?_ | refine aw_ret ?_)
      exact Z7
    · rw [show deep policy depth = 0 by rw [deep, if_neg h2, if_neg (by simpa using hc)]]
      repeat (first | refine then_nrm ?_ | refine blk_nrm ?_ | refine aw_seq ?_ | refine aw_skip ?_)
      refine Z3 ?_
      repeat (first | refine then_nrm ?_ | refine aw_ret ?_)
      exact Z7
set_option maxHeartbeats 0 in
theorem pick_Pick (g : List Thing) (use : List Int) (l : List Held) (ws : List Want) (now til policy depth : Int) (H : Heap) (hw : HW l) (hg : g.length ≤ 1000000) (hu : use.length ≤ 1000000) (hn : ws.length ≤ 1000000) :
    ACT Tryz.prog KD 177 [.pl (g.map eThing), .pl (use.map eI), .pl (l.map eHeld), .pl (ws.map eWant), .int .i64 now, .int .i64 til, .int .i64 policy, .int .i64 depth] H
      (Ret (.tup [.pl ((pickAll g use l ws now til policy depth).1.map eHeld), .pl ((pickAll g use l ws now til policy depth).2.1.map eHeld), .int .i64 (pickAll g use l ws now til policy depth).2.2]) H) := by
  refine ACT.body (N := 119) [.tmp 16, .tmp 17, .tmp 18] Tryz.func177 rfl rfl rfl (Nat.le_of_ble_eq_true rfl) fun B hB => ?_
  repeat (refine aw_seq ?_)
  refine Z2o ?_
  refine Z2n ?_
  refine Z2 ?_
  repeat (first | refine then_nrm ?_ | refine aw_seq ?_)
  refine aw_out 47 (.bool (decide (policy < 1) || decide (3 < policy) || decide (depth < 0) || decide (64 < depth) || !heldR l)) ?_ ?_
  · refine Zr ?_
    refine ao_split rfl rfl (fun hg2 => ?_) (fun hg2 => ?_)
    · refine Z4o ?_
      refine Z4o ?_
      refine Z4o ?_
      refine Zjw ?_
      exact Zft
    · refine Z4s ?_
      refine Z26 ?_
      refine ao_split rfl rfl (fun hg6 => ?_) (fun hg6 => ?_)
      · refine Z4o ?_
        refine Z4o ?_
        refine Zjw ?_
        exact Zft
      · refine Ze ?_
        refine Zf ?_
        refine Z26 ?_
        refine ao_split rfl rfl (fun hg10 => ?_) (fun hg10 => ?_)
        · refine Z4o ?_
          refine Zjw ?_
          exact Zft
        · refine Z4s ?_
          refine Z26 ?_
          refine ao_split rfl rfl (fun hg14 => ?_) (fun hg14 => ?_)
          · refine Zjw ?_
            exact Zft
          · refine Z7j ?_
            refine Zet ?_
            refine Zfu ?_
            exact Zh8
  repeat (refine then_nrm ?_)
  refine aw_cond rfl (fun hc => ?_) (fun hc => ?_)
  · have he : pickAll g use l ws now til policy depth = ([], [], 1) := by rw [pickAll, if_pos hc]
    rw [he]
    repeat (refine aw_seq ?_)
    refine Z2o ?_
    refine Z2n ?_
    refine Z2 ?_
    try dsimp only
    repeat (refine then_nrm ?_)
    refine aw_nslpl 16 rfl ?_
    refine aw_nslpl 17 rfl ?_
    exact Zh5
  have he : pickAll g use l ws now til policy depth = pickL g use now til policy depth ⟨l, [], []⟩ ws := by rw [pickAll, if_neg (by rw [hc]; decide)]
  rw [he]
  clear hc he
  repeat (first | refine then_nrm ?_ | refine aw_seq ?_ | refine aw_skip ?_)
  refine Z2o ?_
  refine Z73 ?_
  repeat (first | refine then_nrm ?_ | refine aw_seq ?_)
  refine aw_ghostL (k := 0) 19 4 rfl (by decide) rfl ?_
  refine aw_ghostL (k := 1) 20 4 rfl (by decide) rfl ?_
  refine Z5t ?_
  try dsimp only [List.nil_append, List.cons_append]
  repeat (first | refine then_nrm ?_ | refine aw_block ?_)
  refine aw_loop (G := Nat × PickS) (fun q => q.1 ≤ ws.length ∧ HW q.2.l ∧ q.2.begun.length ≤ q.1 ∧ q.2.kept.length ≤ q.1 ∧ pickL g use now til policy depth ⟨l, [], []⟩ ws = pickL g use now til policy depth q.2 (ws.drop q.1))
    (fun q => [(KT, KD.av), (0, .pl (g.map eThing)), (1, .pl (use.map eI)), (2, .pl (q.2.l.map eHeld)), (4, .int .i64 now), (5, .int .i64 til), (6, .int .i64 policy), (7, .int .i64 depth), (19, .sl (Lid H.length 0) q.2.begun.length 0 q.2.begun.length q.2.begun.length), (20, .sl (Lid H.length 1) q.2.kept.length 0 q.2.kept.length q.2.kept.length), (48, .pl (ws.map eWant)), (49, .int .i64 (ws.length : Int)), (50, .int .i64 (q.1 : Int))])
    (fun q => H ++ [⟨q.2.begun.length, 4, q.2.begun.map eHeld⟩, ⟨q.2.kept.length, 4, q.2.kept.map eHeld⟩]) (fun q => ws.length - q.1) (0, ⟨l, [], []⟩) ⟨Nat.zero_le _, hw, Nat.le_refl _, Nat.le_refl _, rfl⟩ (by repeat (first | exact Sub.nil | refine Sub.cons (by first | rfl | (simp [get]; done)) ?_)) (.inl rfl) ?_
  rintro ⟨k, ⟨sl, sb, sk⟩⟩ ⟨hk, hsw, hsb, hsk, hI⟩
  simp only at hk hsw hsb hsk hI ⊢
  rw [hI]
  clear hI
  repeat (refine aw_seq ?_)
  refine Z36 ?_
  repeat (first | refine then_nrm ?_ | refine aw_seq ?_)
  refine aw_cond rfl (fun hc => ?_) (fun hc => ?_)
  · have hlt : k < ws.length := by simpa using hc
    obtain ⟨w, hwk, hwl⟩ := get_in hlt
    have hr := map_get eWant hwk
    have hd : ws.drop k = w :: ws.drop (k + 1) := by rw [List.drop_eq_getElem_cons hlt, show ws[k] = w from (List.getElem?_eq_some_iff.1 hwk).2]
    rw [hd]
    have hfl := slotFirst_len g use sl w.spec now til
    clear hc
    repeat (first | refine then_nrm ?_ | refine aw_seq ?_ | refine aw_block ?_ | refine aw_skip ?_)
    refine Zc8 ?_
    refine ao2 (by rintro _ ⟨⟩; decide) (o_allocL (sz := 8) rfl (by decide) rfl) ?_
    refine ao2 (by rintro _ ⟨⟩) (w_storeW (sz := 8) rfl rfl rfl rfl rfl rfl rfl rfl (Nat.le_of_ble_eq_true rfl)) ?_
    refine Z9a ?_
    repeat (first | refine then_nrm ?_ | refine aw_seq ?_)
    refine Z6d ?_
    refine Z2q ?_
    refine Z1z ?_
    refine Zk2 ?_
    refine Z1u ?_
    refine ao2 (by rintro _ ⟨⟩; decide) (V2.callT (slot_FirstC g use sl w.spec now til _ hsw hg hu) rfl rfl) ?_
    refine Z50 ?_
    refine Zy ?_
    refine Zgq ?_
    refine Z51 ?_
    refine Z1 ?_
    refine Z2u ?_
    refine Z9 ?_
    refine Z55 ?_
    generalize hf : slotFirst g use sl w.spec now til = f at *
    obtain ⟨t, th, ok⟩ := f
    simp only at hfl ⊢
    have hst := pickL_cons (policy := policy) (depth := depth) (s := ⟨sl, sb, sk⟩) (w := w) (ws := ws.drop (k + 1)) (til := til) (now := now) hf
    rw [hst]
    clear hst hf hd hr hwk
    repeat (first | refine then_nrm ?_ | refine aw_seq ?_)
    refine Z56 ?_
    try dsimp only
    repeat (refine then_nrm ?_)
    refine aw_cond rfl (fun hc => ?_) (fun hc => ?_)
    · rw [if_pos hc]
      repeat (first | refine then_nrm ?_ | refine then_brk ?_ | refine blk_hit ?_ | refine aw_exit ?_)
      refine Z3i ?_
      repeat (refine then_nrm ?_)
      refine ⟨(k + 1, ⟨sl, sb, sk⟩), by simp only; omega, ⟨by simp only; omega, hsw, by simp only; omega, by simp only; omega, rfl⟩, (by repeat (first | exact Sub.nil | refine Sub.cons (by rfl) ?_)), Fit.loc hB rfl (by repeat (first | exact EBel.nil | refine EBel.cons (by first | rfl | (simp [AV.bel, AV.bels, Lid]; done)) ?_)) ?_⟩
      intro o ho r hr
      simp only [List.mem_cons, List.not_mem_nil, or_false] at ho
      rcases ho with rfl | rfl
      · exact helds_bel _ _ r hr
      · exact helds_bel _ _ r hr
    rw [if_neg (by rw [hc]; decide)]
    clear hc
    repeat (first | refine then_nrm ?_ | refine aw_seq ?_ | refine aw_skip ?_)
    refine aw_out 74 (.bool (decide (t ≠ now ∧ policy = 1))) ?_ ?_
    · refine Z1u ?_
      refine Z1p ?_
      refine Zc ?_
      refine ao_split rfl rfl (fun hg3 => ?_) (fun hg3 => ?_)
      · refine Z4b ?_
        refine Zg ?_
        exact Zk3
      · refine Zl ?_
        refine Zm ?_
        exact Zft
    repeat (refine then_nrm ?_)
    refine aw_cond rfl (fun hc => ?_) (fun hc => ?_)
    · rw [if_pos (of_decide_eq_true hc)]
      repeat (first | refine then_nrm ?_ | refine then_brk ?_ | refine blk_hit ?_ | refine blk_miss rfl ?_ | refine aw_seq ?_ | refine aw_exit ?_)
      refine Zgc ?_
      refine Z7b ?_
      refine Z7b ?_
      refine Z2 ?_
      try dsimp only
      repeat (refine then_nrm ?_)
      refine Zk4 ?_
      refine Zk5 ?_
      exact Zh5
    rw [if_neg (of_decide_eq_false hc)]
    clear hc
    repeat (first | refine then_nrm ?_ | refine aw_seq ?_ | refine aw_skip ?_)
    refine aw_out 85 (.bool (decide (t ≠ now ∧ deep policy depth ≤ (sk.length : Int)))) ?_ ?_
    · refine Z1u ?_
      refine Z1p ?_
      refine Zc ?_
      refine ao_split rfl rfl (fun hg3 => ?_) (fun hg3 => ?_)
      · refine Z9i ?_
        refine ao_y1 rfl rfl (by decide) (w_lens rfl (lk rfl rfl) rfl) ?_
        refine Ze ?_
        refine Ze ?_
        refine ao_y rfl rfl (by decide) (V2.call (pick_deep _ _ _) rfl) ?_
        refine Z3f ?_
        refine Zg ?_
        exact Zft
      · refine Zia ?_
        refine Zm ?_
        exact Zft
    repeat (refine then_nrm ?_)
    refine aw_cond rfl (fun hc => ?_) (fun hc => ?_)
    · rw [if_pos (of_decide_eq_true hc)]
      repeat (first | refine then_nrm ?_ | refine then_brk ?_ | refine blk_hit ?_ | refine aw_exit ?_)
      refine Z3i ?_
      repeat (refine then_nrm ?_)
      refine ⟨(k + 1, ⟨sl, sb, sk⟩), by simp only; omega, ⟨by simp only; omega, hsw, by simp only; omega, by simp only; omega, rfl⟩, (by repeat (first | exact Sub.nil | refine Sub.cons (by rfl) ?_)), Fit.loc hB rfl (by repeat (first | exact EBel.nil | refine EBel.cons (by first | rfl | (simp [AV.bel, AV.bels, Lid]; done)) ?_)) ?_⟩
      intro o ho r hr
      simp only [List.mem_cons, List.not_mem_nil, or_false] at ho
      rcases ho with rfl | rfl
      · exact helds_bel _ _ r hr
      · exact helds_bel _ _ r hr
    rw [if_neg (of_decide_eq_false hc)]
    clear hc
    repeat (first | refine then_nrm ?_ | refine aw_seq ?_ | refine aw_skip ?_)
    refine Zdx ?_
    refine Z6h ?_
    refine Z7v ?_
    refine Z7w ?_
    refine Zjz ?_
    refine Z9t ?_
    refine Zfj ?_
    refine aqp 5 rfl (by decide +kernel) (by decide) (fun G => w_loadN (cs := [_, _, _, _, _, _, _]) rfl (lk rfl rfl) rfl rfl rfl rfl) ?_
    refine Zjm ?_
    refine aq02 7 rfl (by decide +kernel) (by decide) (fun _ => V2.call (spec_Ends _ _ _) rfl) ?_
    refine aq0 8 rfl (by decide +kernel) (by decide) (fun _ => V1.up (o_build (cs := [.int _ _, _, .int _ _, .int _ _]) rfl)) ?_
    refine aqs 9 rfl (by decide +kernel) (by exact fun _ => ⟨_, rfl⟩) (by rintro _ ⟨⟩; decide) (o_allocL (sz := 4) rfl (by decide) rfl) ?_
    refine aqs 10 rfl (by decide +kernel) (by exact fun _ => ⟨_, rfl⟩) (by rintro _ ⟨⟩) (w_storeW (sz := 4) rfl rfl rfl rfl rfl rfl rfl rfl (Nat.le_of_ble_eq_true rfl)) ?_
    refine Z19 ?_
    refine Zh1 ?_
    have hth : th.length ≤ 1000000 := by omega
    have hadd : (⟨w.id, th, t, sEnds w.spec t⟩ : Held).things.length ≤ 1000000 := hth
    have hsw2 := hsw.add hadd
    repeat (first | refine then_nrm ?_ | refine aw_seq ?_)
    refine Z2r ?_
    refine Z2h ?_
    refine ao2 (by rintro _ ⟨⟩; decide) (V2.call (held_Add sl ⟨w.id, th, t, sEnds w.spec t⟩ _ hsw hadd) rfl) ?_
    refine Zgr ?_
    refine Zy ?_
    refine Z2u ?_
    refine Z2 ?_
    try dsimp only [put]
    generalize heldAdd sl ⟨w.id, th, t, sEnds w.spec t⟩ = r at *
    obtain ⟨rl, rc⟩ := r
    simp only at hsw2 ⊢
    repeat (first | refine then_nrm ?_ | refine aw_seq ?_)
    refine Z76 ?_
    repeat (refine then_nrm ?_)
    refine aw_cond rfl (fun hc => ?_) (fun hc => ?_)
    · have hne : rc ≠ 0 := by simpa using hc
      rw [if_pos hne]
      repeat (refine aw_seq ?_)
      refine Zv ?_
      refine Z2n ?_
      refine Z2n ?_
      refine Z2 ?_
      try dsimp only
      repeat (refine then_nrm ?_)
      refine aw_nslpl 16 rfl ?_
      refine aw_nslpl 17 rfl ?_
      exact Zh5
    have hne : ¬ rc ≠ 0 := by simpa using hc
    rw [if_neg hne]
    clear hc
    repeat (first | refine then_nrm ?_ | refine aw_seq ?_ | refine aw_skip ?_)
    refine Z2r ?_
    refine Z9z ?_
    repeat (first | refine then_nrm ?_ | refine aw_seq ?_)
    refine Z1o ?_
    refine Z10 ?_
    repeat (refine then_nrm ?_)
    refine aw_cond rfl (fun hc => ?_) (fun hc => ?_)
    · rw [if_pos (by simpa using hc)]
      clear hc
      refine Zg0 ?_
      refine Zk6 ?_
      refine Zk7 ?_
      refine Z7c ?_
      refine Zjx ?_
      rw [List.take_of_length_le (by simp)]
      repeat (first | refine then_nrm ?_ | refine blk_nrm ?_)
      refine Z3i ?_
      repeat (refine then_nrm ?_)
      refine ⟨(k + 1, ⟨rl, sb ++ [⟨w.id, th, t, sEnds w.spec t⟩], sk⟩), by simp only; omega, ⟨by simp only; omega, hsw2, by simp; omega, by simp only; omega, rfl⟩, by simp only [List.length_append]; exact (by repeat (first | exact Sub.nil | refine Sub.cons (by rfl) ?_)), ?_⟩
      simp only [List.length_append]
      refine Fit.loc hB (by rw [List.map_append]; rfl) (by repeat (first | exact EBel.nil | refine EBel.cons (by first | rfl | (simp [AV.bel, AV.bels, Lid]; done)) ?_)) ?_
      intro o ho r hr
      simp only [List.mem_cons, List.not_mem_nil, or_false] at ho
      rcases ho with rfl | rfl
      · exact helds_bel _ _ r hr
      · exact helds_bel _ _ r hr
    · rw [if_neg (by simpa using hc)]
      clear hc
      refine Zg0 ?_
      refine Zk6 ?_
      refine Zk7 ?_
      refine Z7c ?_
      refine Zjq ?_
      rw [List.take_of_length_le (by simp)]
      repeat (first | refine then_nrm ?_ | refine blk_nrm ?_)
      refine Z3i ?_
      repeat (refine then_nrm ?_)
      refine ⟨(k + 1, ⟨rl, sb, sk ++ [⟨w.id, th, t, sEnds w.spec t⟩]⟩), by simp only; omega, ⟨by simp only; omega, hsw2, by simp only; omega, by simp; omega, rfl⟩, by simp only [List.length_append]; exact (by repeat (first | exact Sub.nil | refine Sub.cons (by rfl) ?_)), ?_⟩
      simp only [List.length_append]
      refine Fit.loc hB (by rw [List.map_append]; rfl) (by repeat (first | exact EBel.nil | refine EBel.cons (by first | rfl | (simp [AV.bel, AV.bels, Lid]; done)) ?_)) ?_
      intro o ho r hr
      simp only [List.mem_cons, List.not_mem_nil, or_false] at ho
      rcases ho with rfl | rfl
      · exact helds_bel _ _ r hr
      · exact helds_bel _ _ r hr
  · have : k = ws.length := by simp at hc; omega
    subst this
    rw [List.drop_length]
    clear hc
    repeat (first | refine then_nrm ?_ | refine then_brk ?_ | refine blk_hit ?_ | refine aw_seq ?_ | refine aw_exit ?_)
    refine Zgc ?_
    refine Z7b ?_
    refine Z7b ?_
    refine Z2 ?_
    repeat (refine then_nrm ?_)
    refine Zk4 ?_
    refine Zk5 ?_
    exact Zh5
end Go.Av

namespace Go.Av
structure RI (w : Inst) : Prop where
  iw : IW w
  jw : JW w.jobs
theorem JW.do {l : List Job} (h : JW l) (id what at_ : Int) : JW (jobsDo l id what at_).1 := by
  unfold jobsDo
  split
  · exact h
  · split
    · exact h
    · refine ⟨by rw [List.length_set]; exact h.1, fun j hj => ?_⟩
      rcases List.mem_or_eq_of_mem_set hj with hj | rfl
      · exact h.2 j hj
      · rw [(jdo_same _ _ _).2.2.1]
        unfold jobAt
        rw [List.getD_eq_getElem?_getD]
        cases e : l[jobPos l id]? with
        | none => simp [job0]
        | some x => exact h.2 x (List.mem_of_getElem? e)
theorem HW.drop {l : List Held} (h : HW l) (id : Int) : HW (heldDrop l id).1 := by
  unfold heldDrop
  split
  · exact h
  · split
    · exact h
    · exact ⟨Nat.le_trans (List.length_eraseIdx_le _ _) h.1, fun x hx => h.2 x (List.mem_of_mem_eraseIdx hx)⟩
theorem RI.wdo {w : Inst} (h : RI w) (id what at_ : Int) : RI (wdo w id what at_).1 := by
  have h1 := h.jw.do id what at_
  unfold Av.wdo
  split
  · exact h
  · split
    · exact ⟨⟨h.iw.graph, h.iw.health, h.iw.lease, h1.1, h.iw.table.drop id⟩, h1⟩
    · exact ⟨⟨h.iw.graph, h.iw.health, h.iw.lease, h1.1, h.iw.table⟩, h1⟩
def brk (w : Inst) (k : Nat) : Inst := (w.table.take k).foldl (fun a h => if spart h.things (smeet w.lease (hbelow w.graph w.health 1)) then a else (wdo a h.id 5 a.now).1) w
theorem brk_zero (w : Inst) : brk w 0 = w := rfl
theorem brk_all (w : Inst) : brk w w.table.length = wbroken w := by rw [brk, List.take_length]; rfl
theorem brk_step {w : Inst} {k : Nat} {h : Held} (e : w.table[k]? = some h) : brk w (k + 1) = if spart h.things (smeet w.lease (hbelow w.graph w.health 1)) then brk w k else (wdo (brk w k) h.id 5 (brk w k).now).1 := by
  rw [brk, brk, List.take_add_one, e, List.foldl_append]; rfl
theorem RI.foldl {α : Type} {f : Inst → α → Inst} (hf : ∀ a x, RI a → RI (f a x)) : ∀ (l : List α) {w : Inst}, RI w → RI (l.foldl f w)
  | [], _, h => h
  | x :: l, _, h => RI.foldl hf l (hf _ x h)
theorem RI.brk {w : Inst} (h : RI w) (k : Nat) : RI (brk w k) := RI.foldl (fun a x ha => by split; exact ha; exact ha.wdo _ _ _) _ h
def rfs (w : Inst) (k : Nat) : Inst := (w.jobs.take k).foldl (fun a j => if decide (j.state ≤ 1) && ((jobsLost w.jobs).contains j.id || !mcould a.graph j.spec) then (wdo a j.id 7 a.now).1 else a) w
theorem rfs_all (w : Inst) : rfs w w.jobs.length = wrefuse w := by rw [rfs, List.take_length]; rfl
theorem rfs_step {w : Inst} {k : Nat} {j : Job} (e : w.jobs[k]? = some j) : rfs w (k + 1) = if decide (j.state ≤ 1) && ((jobsLost w.jobs).contains j.id || !mcould (rfs w k).graph j.spec) then (wdo (rfs w k) j.id 7 (rfs w k).now).1 else rfs w k := by
  rw [rfs, rfs, List.take_add_one, e, List.foldl_append]; rfl
theorem RI.rfs {w : Inst} (h : RI w) (k : Nat) : RI (rfs w k) := RI.foldl (fun a x ha => by split; exact ha.wdo _ _ _; exact ha) _ h
theorem RI.broken {w : Inst} (h : RI w) : RI (wbroken w) := by rw [← brk_all]; exact h.brk _
theorem RI.refuse {w : Inst} (h : RI w) : RI (wrefuse w) := by rw [← rfs_all]; exact h.rfs _
end Go.Av

namespace Go.Av
open Go.Proofs
set_option maxRecDepth 10000
set_option linter.unusedSimpArgs false
set_option linter.unusedVariables false
theorem Fit.locF {B : Base} {E : Env} {H M L : Heap} {args : List AV} (hB : Begun B H args) (hl : M.length = H.length) (hE : EBel H.length E) (hM : HBel H.length M) : Fit B E (M ++ L) (M ++ []) := by
  rw [List.append_nil]
  exact .inr ⟨L, rfl, by rw [hl, hB.len]; exact Nat.le_refl _, by rw [hl]; exact hE, by rw [hl]; exact hM⟩
theorem V2.callF {P : Program} {N : Nat} {env : Env} {H0 L : Heap} {ty : TypeId} {f p : Nat} {xs : Array Operand} {ts : Array TypeId} {vs : List AV} {v : AV} {o o0 : AObj} [FnI P f] (hac : AC P f vs (H0 ++ L) (Ret v ((H0 ++ L).set p o))) (hvs : xs.toList.map (aev env) = vs) (hp : H0[p]? = some o0) :
    V2 P N (.call { callee := .value (.func f), args := xs, argTypes := ts }) ty env (H0 ++ L) v (H0.set p o ++ L) := by
  have := V2.call (N := N) (ty := ty) (ts := ts) hac hvs
  rwa [stF hp] at this
theorem inst_bel (n : Nat) (w : Inst) : ∀ r ∈ (AObj.mk 0 9 [eInst w]).rows, AV.bels n r = true := by
  intro r hr
  simp only [List.mem_singleton] at hr
  subst hr
  rfl
set_option maxHeartbeats 0 in
theorem worker_broken (w : Inst) (p : Nat) (H : Heap) (hw : RI w) (hid : H[p]? = some ⟨0, 9, [eInst w]⟩) : ACT Tryz.prog KD 140 [.pt p 0 0 0] H (Ret (.tup []) (H.set p ⟨0, 9, [eInst (wbroken w)]⟩)) := by
  have hpl : p < H.length := (List.getElem?_eq_some_iff.1 hid).1
  have hF := hid
  have w1 := hw.iw.graph
  have w4 := hw.iw.health
  have w5 := hw.iw.lease
  have w6 := hw.iw.table
  have w7 := w6.1
  have hbl := hbelow_le w.graph w.health 1
  refine ACT.body (N := 48) [] Tryz.func140 rfl rfl rfl (Nat.le_of_ble_eq_true rfl) fun B hB => ?_
  repeat (refine aw_seq ?_)
  refine Z15 ?_
  refine Zev ?_
  refine Zew ?_
  refine Zex ?_
  refine Zey ?_
  refine Zez ?_
  refine Zf0 ?_
  refine Zf1 ?_
  refine Zf2 ?_
  refine Zf3 ?_
  refine Zf4 ?_
  refine Zf5 ?_
  refine Zf6 ?_
  refine Zf7 ?_
  refine Zf8 ?_
  refine Zf9 ?_
  refine aq02 15 rfl (by decide +kernel) (by decide) (fun _ => V2.call (health_Works _ _ _ (by omega) (by omega)) rfl) ?_
  refine aq02 16 rfl (by decide +kernel) (by decide) (fun _ => V2.callT (set_Meet w.lease (hbelow w.graph w.health 1) (by omega) (by omega) _) rfl rfl) ?_
  refine Zfa ?_
  refine Zfb ?_
  have hml : (smeet w.lease (hbelow w.graph w.health 1)).length ≤ 1000000 := setl_le _ _ _
  repeat (first | refine then_nrm ?_ | refine aw_seq ?_)
  refine Zgp ?_
  refine ao_ret (slices_CloneH _ _ (by omega)) rfl (by decide) ?_
  refine Z35 ?_
  repeat (first | refine then_nrm ?_ | refine aw_block ?_)
  have hF0 : ∀ k, (H.set p ⟨0, 9, [eInst (brk w k)]⟩)[p]? = some ⟨0, 9, [eInst (brk w k)]⟩ := fun k => List.getElem?_set_self (List.getElem?_eq_some_iff.1 hid).1
  refine aw_loop (G := Nat) (fun k => k ≤ w.table.length) (fun k => [(0, .pt p 0 0 0), (2, .pl ((smeet w.lease (hbelow w.graph w.health 1)).map eInt)), (27, .pl (w.table.map eHeld)), (28, .int .i64 (w.table.length : Int)), (29, .int .i64 (k : Int))]) (fun k => H.set p ⟨0, 9, [eInst (brk w k)]⟩ ++ []) (fun k => w.table.length - k) 0 (Nat.zero_le _) (by repeat (first | exact Sub.nil | refine Sub.cons (by first | rfl | (simp [get]; done)) ?_)) (.inl (by rw [brk_zero, set_same hid])) ?_
  intro k hk
  have hri := hw.brk k
  clear hF
  have hF := hF0 k
  repeat (refine aw_seq ?_)
  refine Z36 ?_
  repeat (first | refine then_nrm ?_ | refine aw_seq ?_)
  refine aw_cond rfl (fun hc => ?_) (fun hc => ?_)
  · have hlt : k < w.table.length := by simpa using hc
    obtain ⟨x, hx, hxl⟩ := get_in hlt
    have hr := map_get eHeld hx
    have hxw := w6.2 x hxl
    have hst := brk_step hx
    clear hc
    repeat (first | refine then_nrm ?_ | refine aw_seq ?_ | refine aw_block ?_ | refine aw_skip ?_)
    refine Zca ?_
    refine Z7s ?_
    repeat (first | refine then_nrm ?_ | refine aw_seq ?_)
    refine Z30 ?_
    refine Z2q ?_
    refine ao_ret (set_Part _ _ (by omega) (by omega) _) rfl (by decide) ?_
    refine Z2j ?_
    refine Z2l ?_
    repeat (refine then_nrm ?_)
    refine aw_cond rfl (fun hc => ?_) (fun hc => ?_)
    · have hc1 : ¬ spart x.things (smeet w.lease (hbelow w.graph w.health 1)) = true := by simpa using hc
      rw [if_neg hc1] at hst
      clear hc hr hx
      refine Zjs ?_
      refine Zjv ?_
      refine Zev ?_
      refine Zk8 ?_
      refine Zk9 ?_
      refine Zka ?_
      refine Zkb ?_
      refine Zkc ?_
      refine Zkd ?_
      refine Zke ?_
      refine aqs 8 rfl (by decide +kernel) (by exact fun _ => ⟨_, rfl⟩) (by rintro _ ⟨⟩; decide) (V2.callF (worker_do (brk w k) x.id 5 (brk w k).now p _ hri.jw (hri.jw.do _ _ _) hri.iw.table (lkF hF)) rfl hF) ?_
      refine Z5z ?_
      refine Zkf ?_
      rw [List.set_set, ← hst]
      repeat (first | refine then_nrm ?_ | refine blk_nrm ?_)
      refine Z3i ?_
      repeat (refine then_nrm ?_)
      refine ⟨k + 1, by omega, by omega, (by repeat (first | exact Sub.nil | refine Sub.cons (by rfl) ?_)), Fit.locF hB (by simp) (by repeat (first | exact EBel.nil | refine EBel.cons (by first | rfl | (simp [AV.bel, AV.bels, Lid]; omega)) ?_)) (hB.heap.set p _ (inst_bel _ _))⟩
    · have hc1 : spart x.things (smeet w.lease (hbelow w.graph w.health 1)) = true := by simpa using hc
      rw [if_pos hc1] at hst
      clear hc hr hx
      rw [← hst]
      repeat (first | refine then_nrm ?_ | refine blk_nrm ?_ | refine aw_skip ?_)
      refine Z3i ?_
      repeat (refine then_nrm ?_)
      refine ⟨k + 1, by omega, by omega, (by repeat (first | exact Sub.nil | refine Sub.cons (by rfl) ?_)), Fit.locF hB (by simp) (by repeat (first | exact EBel.nil | refine EBel.cons (by first | rfl | (simp [AV.bel, AV.bels, Lid]; omega)) ?_)) (hB.heap.set p _ (inst_bel _ _))⟩
  · have : k = w.table.length := by simp at hc; omega
    subst this
    rw [brk_all]
    repeat (first | refine then_brk ?_ | refine blk_hit ?_ | refine aw_exit ?_)
    exact e_doneF hB .nil rfl rfl (by simp) (hB.heap.set p _ (inst_bel _ _))
set_option maxHeartbeats 0 in
theorem worker_refuse (w : Inst) (p : Nat) (H : Heap) (hw : RI w) (hid : H[p]? = some ⟨0, 9, [eInst w]⟩) : ACT Tryz.prog KD 141 [.pt p 0 0 0] H (Ret (.tup []) (H.set p ⟨0, 9, [eInst (wrefuse w)]⟩)) := by
  have hpl : p < H.length := (List.getElem?_eq_some_iff.1 hid).1
  have hF := hid
  have hjw := hw.jw
  have w7 := hjw.1
  have hll : (jobsLost w.jobs).length ≤ 1000000 := by
    cases h : jobsR w.jobs with
    | false => rw [show jobsLost w.jobs = [] by rw [jobsLost, h]; rfl]; simp
    | true =>
      rw [lostIds_all _ h]
      exact Nat.le_trans (lostIds_le _ _) w7
  refine ACT.body (N := 52) [] Tryz.func141 rfl rfl rfl (Nat.le_of_ble_eq_true rfl) fun B hB => ?_
  repeat (refine aw_seq ?_)
  refine Zgp ?_
  refine ao_ret (queue_Lost _ _ (by assumption)) rfl (by decide) ?_
  refine Z2u ?_
  refine Z32 ?_
  repeat (first | refine then_nrm ?_ | refine aw_seq ?_)
  refine Zgp ?_
  refine ao_ret (slices_CloneJ _ _ (by omega)) rfl (by decide) ?_
  refine Z35 ?_
  repeat (first | refine then_nrm ?_ | refine aw_block ?_)
  have hF0 : ∀ k, (H.set p ⟨0, 9, [eInst (rfs w k)]⟩)[p]? = some ⟨0, 9, [eInst (rfs w k)]⟩ := fun k => List.getElem?_set_self (List.getElem?_eq_some_iff.1 hid).1
  refine aw_loop (G := Nat) (fun k => k ≤ w.jobs.length) (fun k => [(KT, KD.av), (0, .pt p 0 0 0), (2, .pl ((jobsLost w.jobs).map eI)), (16, .pl (w.jobs.map eJob)), (17, .int .i64 (w.jobs.length : Int)), (18, .int .i64 (k : Int))]) (fun k => H.set p ⟨0, 9, [eInst (rfs w k)]⟩ ++ []) (fun k => w.jobs.length - k) 0 (Nat.zero_le _) (by repeat (first | exact Sub.nil | refine Sub.cons (by first | rfl | (simp [get]; done)) ?_)) (.inl (by rw [show rfs w 0 = w from rfl, set_same hid])) ?_
  intro k hk
  have hri := hw.rfs k
  have hgl := hri.iw.graph
  clear hF
  have hF := hF0 k
  repeat (refine aw_seq ?_)
  refine Z36 ?_
  repeat (first | refine then_nrm ?_ | refine aw_seq ?_)
  refine aw_cond rfl (fun hc => ?_) (fun hc => ?_)
  · have hlt : k < w.jobs.length := by simpa using hc
    obtain ⟨x, hx, hxl⟩ := get_in hlt
    have hr := map_get eJob hx
    have hst := rfs_step hx
    clear hc
    repeat (first | refine then_nrm ?_ | refine aw_seq ?_ | refine aw_block ?_ | refine aw_skip ?_)
    refine Zdv ?_
    refine Z7s ?_
    repeat (first | refine then_nrm ?_ | refine aw_seq ?_)
    refine aw_of_out 41 (.bool (decide (x.state ≤ 1) && ((jobsLost w.jobs).contains x.id || !mcould (rfs w k).graph x.spec))) ?_ ?_
    · refine Z7u ?_
      refine Z7v ?_
      refine Z7w ?_
      refine aq0 2 rfl (by decide +kernel) (by decide) (fun _ => o_le rfl rfl) ?_
      refine Z67 ?_
      refine aq_split (g := 25) rfl (fun hg3 => ?_) (fun hg3 => ?_)
      · refine aqy0 (g := 25) 4 rfl (by decide +kernel) (by decide) rfl rfl (fun _ => o_move (v := .pl _) rfl) ?_
        refine aqyp (g := 25) 5 rfl (by decide +kernel) (by decide) rfl rfl (fun G => w_fieldAddr rfl (lk rfl rfl) rfl (by decide)) ?_
        refine aqyp (g := 25) 6 rfl (by decide +kernel) (by decide) rfl rfl (fun G => w_load1 (v := .int _ _) rfl (lk rfl rfl) rfl rfl rfl) ?_
        refine aqy02 (g := 25) 7 rfl (by decide +kernel) (by decide) rfl rfl (fun _ => V2.call (slices_Contains _ _ _ (by omega)) rfl) ?_
        refine aqy0 (g := 25) 8 rfl (by decide +kernel) (by decide) rfl rfl (fun _ => o_move (v := .bool _) rfl) ?_
        refine aq_split (g := 30) rfl (fun hg8 => ?_) (fun hg8 => ?_)
        · refine aqn0 (g := 30) 9 rfl (by decide +kernel) (by decide) rfl rfl rfl ?_
          refine aqn0 (g := 30) 10 rfl (by decide +kernel) (by decide) rfl rfl rfl ?_
          refine aqn0 (g := 30) 11 rfl (by decide +kernel) (by decide) rfl rfl rfl ?_
          refine aqn0 (g := 30) 12 rfl (by decide +kernel) (by decide) rfl rfl rfl ?_
          refine aqn0 (g := 30) 13 rfl (by decide +kernel) (by decide) rfl rfl rfl ?_
          refine aqn0 (g := 30) 14 rfl (by decide +kernel) (by decide) rfl rfl rfl ?_
          refine aqn0 (g := 30) 15 rfl (by decide +kernel) (by decide) rfl rfl rfl ?_
          refine aqn0 (g := 30) 16 rfl (by decide +kernel) (by decide) rfl rfl rfl ?_
          refine aqn0 (g := 30) 17 rfl (by decide +kernel) (by decide) rfl rfl rfl ?_
          refine aqy0 (g := 25) 18 rfl (by decide +kernel) (by decide) rfl rfl (fun _ => o_pick_t (v := .bool _) rfl rfl) ?_
          refine Zkg ?_
          exact Zkh
        · refine aqy0 (g := 30) 9 rfl (by decide +kernel) (by decide) rfl rfl (fun _ => o_move (v := .pt _ _ _ _) rfl) ?_
          refine aqyp (g := 30) 10 rfl (by decide +kernel) (by decide) rfl rfl (fun G => w_nilCheck rfl (lkF hF) rfl) ?_
          refine aqyp (g := 30) 11 rfl (by decide +kernel) (by decide) rfl rfl (fun G => w_fieldAddr rfl (lkF hF) rfl (by decide)) ?_
          refine aqyp (g := 30) 12 rfl (by decide +kernel) (by decide) rfl rfl (fun G => w_fieldAddr rfl (lkF hF) rfl (by decide)) ?_
          refine aqyp (g := 30) 13 rfl (by decide +kernel) (by decide) rfl rfl (fun G => w_load1 (v := .pl _) rfl (lkF hF) rfl rfl rfl) ?_
          refine aqyp (g := 30) 14 rfl (by decide +kernel) (by decide) rfl rfl (fun G => w_fieldAddr rfl (lk rfl rfl) rfl (by decide)) ?_
          refine aqyp (g := 30) 15 rfl (by decide +kernel) (by decide) rfl rfl (fun G => w_loadN (cs := [_, _, _, _, _, _, _]) rfl (lk rfl rfl) rfl rfl rfl rfl) ?_
          refine aqy02 (g := 30) 16 rfl (by decide +kernel) (by decide) rfl rfl (fun _ => V2.callT (match_Could (rfs w k).graph x.spec _ hgl) rfl rfl) ?_
          refine aqy0 (g := 30) 17 rfl (by decide +kernel) (by decide) rfl rfl (fun _ => o_not rfl) ?_
          refine aqy0 (g := 25) 18 rfl (by decide +kernel) (by decide) rfl rfl (fun _ => o_pick_f (v := .bool _) rfl rfl) ?_
          refine Zkg ?_
          exact Zkh
      · refine aqn0 (g := 25) 4 rfl (by decide +kernel) (by decide) rfl rfl rfl ?_
        refine aqn0 (g := 25) 5 rfl (by decide +kernel) (by decide) rfl rfl rfl ?_
        refine aqn0 (g := 25) 6 rfl (by decide +kernel) (by decide) rfl rfl rfl ?_
        refine Zd8 ?_
        refine Zd9 ?_
        refine aqu0 (g := 30) 9 rfl (by decide +kernel) (by decide) rfl rfl ?_
        refine aqu0 (g := 30) 10 rfl (by decide +kernel) (by decide) rfl rfl ?_
        refine aqu0 (g := 30) 11 rfl (by decide +kernel) (by decide) rfl rfl ?_
        refine aqu0 (g := 30) 12 rfl (by decide +kernel) (by decide) rfl rfl ?_
        refine aqu0 (g := 30) 13 rfl (by decide +kernel) (by decide) rfl rfl ?_
        refine aqu0 (g := 30) 14 rfl (by decide +kernel) (by decide) rfl rfl ?_
        refine aqu0 (g := 30) 15 rfl (by decide +kernel) (by decide) rfl rfl ?_
        refine aqu0 (g := 30) 16 rfl (by decide +kernel) (by decide) rfl rfl ?_
        refine aqu0 (g := 30) 17 rfl (by decide +kernel) (by decide) rfl rfl ?_
        refine aqn0 (g := 25) 18 rfl (by decide +kernel) (by decide) rfl rfl rfl ?_
        refine aq0 19 rfl (by decide +kernel) (by decide) (fun _ => o_pick_f (v := .bool _) rfl rfl) ?_
        exact aa_done (by decide +kernel) (by exact fun _ => ⟨_, rfl⟩) (Out.mk (by (refine congrArg AV.bool ?_; (clear hB hst hr hF hF0; (simp_all; omega)))) (by repeat (first | exact SubX.refl _ _ | refine SubX.at ?_ | refine SubX.put rfl ?_)))
    repeat (refine then_nrm ?_)
    refine aw_cond rfl (fun hc => ?_) (fun hc => ?_)
    · rw [if_pos hc] at hst
      clear hc hr hx
      refine Zjs ?_
      refine Zjv ?_
      refine Zev ?_
      refine Zk8 ?_
      refine Zk9 ?_
      refine Zka ?_
      refine Zkb ?_
      refine Zkc ?_
      refine Zkd ?_
      refine Zke ?_
      refine aqs 8 rfl (by decide +kernel) (by exact fun _ => ⟨_, rfl⟩) (by rintro _ ⟨⟩; decide) (V2.callF (worker_do (rfs w k) x.id 7 (rfs w k).now p _ hri.jw (hri.jw.do _ _ _) hri.iw.table (lkF hF)) rfl hF) ?_
      refine Z5z ?_
      refine Zkf ?_
      rw [List.set_set, ← hst]
      repeat (first | refine then_nrm ?_ | refine blk_nrm ?_)
      refine Z3i ?_
      repeat (refine then_nrm ?_)
      refine ⟨k + 1, by omega, by omega, (by repeat (first | exact Sub.nil | refine Sub.cons (by rfl) ?_)), Fit.locF hB (by simp) (by repeat (first | exact EBel.nil | refine EBel.cons (by first | rfl | (simp [AV.bel, AV.bels, Lid]; omega)) ?_)) (hB.heap.set p _ (inst_bel _ _))⟩
    · rw [if_neg (by rw [hc]; decide)] at hst
      clear hc hr hx
      rw [← hst]
      repeat (first | refine then_nrm ?_ | refine blk_nrm ?_ | refine aw_skip ?_)
      refine Z3i ?_
      repeat (refine then_nrm ?_)
      refine ⟨k + 1, by omega, by omega, (by repeat (first | exact Sub.nil | refine Sub.cons (by rfl) ?_)), Fit.locF hB (by simp) (by repeat (first | exact EBel.nil | refine EBel.cons (by first | rfl | (simp [AV.bel, AV.bels, Lid]; omega)) ?_)) (hB.heap.set p _ (inst_bel _ _))⟩
  · have : k = w.jobs.length := by simp at hc; omega
    subst this
    rw [rfs_all]
    repeat (first | refine then_brk ?_ | refine blk_hit ?_ | refine aw_exit ?_)
    exact e_doneF hB .nil rfl rfl (by simp) (hB.heap.set p _ (inst_bel _ _))
end Go.Av

