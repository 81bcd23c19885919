/- The reference's memories: all words, what is out, fuses. Conditions: none. -/
import Derived.Test.YtfahkkefcdeohaaSRefZ
set_option linter.unusedSimpArgs false
set_option linter.unusedVariables false
namespace Go.Ax.M
open Go Go.Ax
def fuseW (m : MemM) (calls : Int) (keep : List Int) : MemM := bif m.off then m else { m with fuse := calls, keep := keep }
theorem cells_get8 {r : RowM} (h : r.ok) {j : Nat} (hj : j < 8) : r.cells[8 + j]? = some (.int .u64 (r.nw.getD j 0)) := by
  obtain ⟨la, nw, out, sent⟩ := r
  obtain ⟨a0, a1, a2, a3, a4, a5, a6, a7, rfl⟩ := eight h.la
  obtain ⟨b0, b1, b2, b3, b4, b5, b6, b7, rfl⟩ := eight h.nw
  match j, hj with
  | 0, _ | 1, _ | 2, _ | 3, _ | 4, _ | 5, _ | 6, _ | 7, _ => rfl
theorem cells_get16 {r : RowM} (h : r.ok) : r.cells[16]? = some (.bool r.out) := by
  obtain ⟨la, nw, out, sent⟩ := r
  obtain ⟨a0, a1, a2, a3, a4, a5, a6, a7, rfl⟩ := eight h.la
  obtain ⟨b0, b1, b2, b3, b4, b5, b6, b7, rfl⟩ := eight h.nw
  rfl
end Go.Ax.M
namespace Go.Proofs.Ytfahkkefcdeohaa.Ax
open Go Go.Ax Go.Ax.M
section
variable {H : Heap} {K : AVal → Heap → Prop} {oM oR n o p : Nat} {f fl fp ro rp : Bool} {kv : AVal} {m : MemM} {l : List Int}

theorem refG_New_spec {n : Nat} (h1 : 1 ≤ n) (h2 : n ≤ 4096) (hK : K (.ptr (H.length + 1) 1 0 0) (H ++ [rowsO (List.replicate n row0), memO H.length n true false 0])) : ACalls Try.prog 28 [.int .i64 (n : Int)] H K := by
  have c1 : ((n : Int) < 1) = False := eq_false (by omega)
  have c2 : ((4096 : Int) < (n : Int)) = False := eq_false (by omega)
  have c3 : ((n : Int) * 136 ≤ 140737488355328) = True := eq_true (by omega)
  have c4 : ((n : Int) ≤ 9223372036854775807) = True := eq_true (by omega)
  have e : rowsO (List.replicate n row0) = .arr 18 (List.replicate n [.int .u64 0, .int .u64 0, .int .u64 0, .int .u64 0, .int .u64 0, .int .u64 0, .int .u64 0, .int .u64 0, .int .u64 0, .int .u64 0, .int .u64 0, .int .u64 0, .int .u64 0, .int .u64 0, .int .u64 0, .int .u64 0, .bool false, .bool false]) false := by
    simp only [rowsO, List.map_replicate]; rfl
  rw [e] at hK
  refine ACalls.into ok28 (Nat.le_of_ble_eq_true rfl) ?_; (try simp only [c28, wpx_of k28_0.eq_1, wpx_of k28_1.eq_1, wpx_of k28_2.eq_1, c1, c2, c3, c4, Int.le_refl, n0_le, Int.toNat_natCast, go_sem]); repeat' ((first
    | refine And.intro (Or.inr rfl) ?_
    | ((first | refine cB ?_ ?_ | refine gT ?_ ?_ | refine gF ?_ ?_ | refine dT ?_ ?_ | refine dF ?_ ?_) <;> intro hc)) <;> try simp only [*, wpx_of k28_0.eq_1, wpx_of k28_1.eq_1, wpx_of k28_2.eq_1, c1, c2, c3, c4, Int.le_refl, n0_le, Int.toNat_natCast, go_sem])
  all_goals exact hK
theorem refG_New_bad {x : Int} (h : x < 1 ∨ 4096 < x) (hK : K (.lit (.pointer none)) H) : ACalls Try.prog 28 [.int .i64 x] H K := by
  rcases h with h | h
  · refine ACalls.into ok28 (Nat.le_of_ble_eq_true rfl) ?_; (try simp only [c28, wpx_of k28_0.eq_1, wpx_of k28_1.eq_1, wpx_of k28_2.eq_1, h, go_sem]); repeat' ((first
    | refine And.intro (Or.inr rfl) ?_
    | ((first | refine cB ?_ ?_ | refine gT ?_ ?_ | refine gF ?_ ?_ | refine dT ?_ ?_ | refine dF ?_ ?_) <;> intro hc)) <;> try simp only [*, wpx_of k28_0.eq_1, wpx_of k28_1.eq_1, wpx_of k28_2.eq_1, h, go_sem])
    all_goals exact hK
  · have h1 : (x < 1) = False := eq_false (by omega)
    refine ACalls.into ok28 (Nat.le_of_ble_eq_true rfl) ?_; (try simp only [c28, wpx_of k28_0.eq_1, wpx_of k28_1.eq_1, wpx_of k28_2.eq_1, h, h1, go_sem]); repeat' ((first
    | refine And.intro (Or.inr rfl) ?_
    | ((first | refine cB ?_ ?_ | refine gT ?_ ?_ | refine gF ?_ ?_ | refine dT ?_ ?_ | refine dF ?_ ?_) <;> intro hc)) <;> try simp only [*, wpx_of k28_0.eq_1, wpx_of k28_1.eq_1, wpx_of k28_2.eq_1, h, h1, go_sem])
    all_goals exact hK

theorem refG_Words_spec (h : MemG H oM oR n f kv m) (hK : K (.slice H.length (wordsM m.rows).length 0 (wordsM m.rows).length false) (H ++ [.arr 1 (words (wordsM m.rows)) false])) :
    ACalls Try.prog 40 [.ptr oM 1 0 0] H K := by
  have k1 := Keeps.of h.cell
  have k2 := Keeps.of h.cells
  have hle := h.le
  refine ACalls.gc ?_
  refine ACalls.into ok40 (Nat.le_of_ble_eq_true rfl) ?_; (try simp only [c40, wpx_of k40_0.eq_1, wpx_of k40_2.eq_1, wpx_of k40_4.eq_1, go_sem]); repeat' ((first
    | refine And.intro (Or.inr rfl) ?_
    | ((first | refine cB ?_ ?_ | refine gT ?_ ?_ | refine gF ?_ ?_ | refine dT ?_ ?_ | refine dF ?_ ?_) <;> intro hc)) <;> try simp only [*, wpx_of k40_0.eq_1, wpx_of k40_2.eq_1, wpx_of k40_4.eq_1, go_sem])
  refine ALoop.keep [3, 4, 0] ?_; simp only [List.map_cons, List.map_nil, go_sem]
  refine ALoop.lay 1 ?_
  refine ALoop.acc (fun k G => [(3, .slice H.length (wordsM (m.rows.take k)).length 0 (wordsM (m.rows.take k)).length false), (4, .int .i64 (k : Int))]) (fun k G => H ++ .arr 1 (words (wordsM (m.rows.take k))) false :: G) (fun _ _ => True) n ?_ (a0 := []) trivial
  intro k G hk _ next
  refine ALoop.hid fun W hW => ?_
  have hn : Hid (m.rows.length = n) := h.len
  have k3 := k1.ex hW.ex
  have k30 := k3.at
  have hw := wrap_succ (k := k) (by omega)
  refine ALoop.unfold ?_
  by_cases hkn : k < n
  · have hkr : k < m.rows.length := by have hn : m.rows.length = n := hn; omega
    have hr := row_ok h.ok hkr
    have hs := wordsM_succ (rows := m.rows) (k := k) hkr
    have hlk := wordsM_len (rows := m.rows.take k) (fun r hr => h.ok r (List.mem_of_mem_take hr))
    have hg : (m.rows.map RowM.cells)[k]? = some (row m.rows k).cells := by rw [List.getElem?_map, row_some hkr]; rfl
    have hlm := h.mlen
    rw [List.length_take] at hlk
    rw [hs] at next
    generalize row m.rows k = r at *
    have hb : ((wordsM (m.rows.take k)).length + 8) * 8 ≤ 140737488355328 := by omega
    generalize wordsM (m.rows.take k) = A at *
    clear hlk hs
    (try simp only [wpx_of k40_0.eq_1, wpx_of k40_2.eq_1, wpx_of k40_4.eq_1, k30, hw, hkn, wpx_of b40_3.eq_1, nlt_iff, n0_le, go_sem]); repeat' ((first
    | refine And.intro (Or.inr rfl) ?_
    | ((first | refine cB ?_ ?_ | refine gT ?_ ?_ | refine gF ?_ ?_ | refine dT ?_ ?_ | refine dF ?_ ?_) <;> intro hc)) <;> try simp only [*, wpx_of k40_0.eq_1, wpx_of k40_2.eq_1, wpx_of k40_4.eq_1, k30, hw, hkn, wpx_of b40_3.eq_1, nlt_iff, n0_le, go_sem])
    refine ALoop.keep [3, 5, 0, 4] ?_; simp only [List.map_cons, List.map_nil, go_sem]
    refine ALoop.heap (H' := H ++ .arr 1 (words (A ++ r.nw.take 0)) false :: G) (by have hW : W = _ := hW; subst hW; simp) ?_
    refine ALoop.acc (fun j G => [(3, .slice H.length (A.length + j) 0 (A.length + j) false), (5, .int .i64 (j : Int))]) (fun j G => H ++ .arr 1 (words (A ++ r.nw.take j)) false :: G) (fun _ _ => True) 8 ?_ (a0 := G) trivial
    intro j G2 hj _ next2
    refine ALoop.hid fun W2 hW2 => ?_
    have j2 := k2.ex hW2.ex
    have j20 := j2.at
    have j1 := k1.ex hW2.ex
    have j10 := j1.at
    have ko := hW2.keep0
    have ko0 := ko.at
    have kos := ko.set
    have hw2 := wrap_succ (k := j) (by omega)
    refine ALoop.unfold ?_
    by_cases hj8 : j < 8
    · have c1 : ((j : Int) < 8) = True := eq_true (by omega)
      have hc := cells_get8 hr hj8
      have hl : (words (A ++ r.nw.take j)).length = A.length + j := by simp [words, hr.nw]; omega
      have hb2 : (A.length + j + 1) * 8 ≤ 140737488355328 := by omega
      have hb3 : (A.length + (j + 1)) * 8 ≤ 140737488355328 := by omega
      have he : words (A ++ r.nw.take j) ++ [[.int .u64 (r.nw.getD j 0)]] = words (A ++ r.nw.take (j + 1)) := by
        rw [List.take_succ_eq_append_getElem (by rw [hr.nw]; exact hj8), ← List.append_assoc, words_append (b := [_])]
        simp [words, List.getD, hr.nw, hj8]
      generalize words (A ++ r.nw.take j) = B at *
      (try simp only [wpx_of k40_0.eq_1, wpx_of k40_2.eq_1, wpx_of k40_4.eq_1, j20, j10, j2, ko, ko0, kos, hw2, hg, hlm, hkn, hc, c1, hl, hb2, hb3, wpx_of b40_1.eq_1, nlt_iff, n0_le, Int.toNat_natCast, Nat.add_assoc, List.cons_append, List.nil_append, go_sem]); repeat' ((first
    | refine And.intro (Or.inr rfl) ?_
    | ((first | refine cB ?_ ?_ | refine gT ?_ ?_ | refine gF ?_ ?_ | refine dT ?_ ?_ | refine dF ?_ ?_) <;> intro hc)) <;> try simp only [*, wpx_of k40_0.eq_1, wpx_of k40_2.eq_1, wpx_of k40_4.eq_1, j20, j10, j2, ko, ko0, kos, hw2, hg, hlm, hkn, hc, c1, hl, hb2, hb3, wpx_of b40_1.eq_1, nlt_iff, n0_le, Int.toNat_natCast, Nat.add_assoc, List.cons_append, List.nil_append, go_sem])
      have nx := next2 (G2 ++ [.arr 1 [[.int .u64 (r.nw.getD j 0)]] false]) hj8 trivial
      refine ALoop.heap (H' := H ++ .arr 1 (words (A ++ r.nw.take (j + 1))) false :: (G2 ++ [.arr 1 [[.int .u64 (r.nw.getD j 0)]] false])) ?_ ?_
      · have hW2 : W2 = _ := hW2
        subst hW2; rw [← he]; simp
      · (refine ALoop.keep [3, 5, 0, 4] ?_; simp only [List.map_cons, List.map_nil, go_sem]; refine nx)
    · have hj : j = 8 := by omega
      subst hj
      (try simp only [wpx_of k40_0.eq_1, wpx_of k40_2.eq_1, wpx_of k40_4.eq_1, hw, hw2, wpx_of b40_1.eq_1, nlt_iff, n0_le, go_sem]); repeat' ((first
    | refine And.intro (Or.inr rfl) ?_
    | ((first | refine cB ?_ ?_ | refine gT ?_ ?_ | refine gF ?_ ?_ | refine dT ?_ ?_ | refine dF ?_ ?_) <;> intro hc)) <;> try simp only [*, wpx_of k40_0.eq_1, wpx_of k40_2.eq_1, wpx_of k40_4.eq_1, hw, hw2, wpx_of b40_1.eq_1, nlt_iff, n0_le, go_sem])
      have nx := next G2 hkn trivial
      rw [show (A ++ r.nw).length = A.length + 8 by rw [List.length_append, hr.nw]] at nx
      refine ALoop.heap (H' := H ++ .arr 1 (words (A ++ r.nw)) false :: G2) ?_ ?_
      · have hW2 : W2 = _ := hW2
        subst hW2; rw [List.take_of_length_le (by rw [hr.nw]; exact Nat.le_refl _)]
      · (refine ALoop.keep [3, 4, 0] ?_; simp only [List.map_cons, List.map_nil, go_sem]; refine nx)
  · have hk : k = n := by omega
    subst hk
    (try simp only [wpx_of k40_0.eq_1, wpx_of k40_2.eq_1, wpx_of k40_4.eq_1, k30, hw, hkn, wpx_of b40_3.eq_1, nlt_iff, n0_le, List.cons_append, List.nil_append, go_sem]); repeat' ((first
    | refine And.intro (Or.inr rfl) ?_
    | ((first | refine cB ?_ ?_ | refine gT ?_ ?_ | refine gF ?_ ?_ | refine dT ?_ ?_ | refine dF ?_ ?_) <;> intro hc)) <;> try simp only [*, wpx_of k40_0.eq_1, wpx_of k40_2.eq_1, wpx_of k40_4.eq_1, k30, hw, hkn, wpx_of b40_3.eq_1, nlt_iff, n0_le, List.cons_append, List.nil_append, go_sem])
    have hW : W = _ := hW
    subst hW
    rw [List.take_of_length_le (by have hn : m.rows.length = k := hn; omega)]
    exact Gc.slice (i := 0) rfl words_plain hK

theorem refG_Out_spec (h : MemG H oM oR n f kv m) (hK : K (.slice H.length (outM m.rows).length 0 (outM m.rows).length false) (H ++ [.arr 1 (ints (outM m.rows)) false])) :
    ACalls Try.prog 42 [.ptr oM 1 0 0] H K := by
  have k1 := Keeps.of h.cell
  have k2 := Keeps.of h.cells
  have hle := h.le
  refine ACalls.gc ?_
  obtain ⟨p, hp⟩ : ∃ p : Nat → Bool, ∀ k, p k = (row m.rows k).out := ⟨fun k => (row m.rows k).out, fun _ => rfl⟩
  have hfo : outM m.rows = pick p n := by simp only [outM, h.len]; congr 1; funext k; exact (hp k).symm
  rw [hfo] at hK
  clear hfo
  refine ACalls.into ok42 (Nat.le_of_ble_eq_true rfl) ?_; (try simp only [c42, wpx_of k42_0.eq_1, wpx_of k42_1.eq_1, wpx_of k42_3.eq_1, go_sem]); repeat' ((first
    | refine And.intro (Or.inr rfl) ?_
    | ((first | refine cB ?_ ?_ | refine gT ?_ ?_ | refine gF ?_ ?_ | refine dT ?_ ?_ | refine dF ?_ ?_) <;> intro hc)) <;> try simp only [*, wpx_of k42_0.eq_1, wpx_of k42_1.eq_1, wpx_of k42_3.eq_1, go_sem])
  refine ALoop.keep [3, 4, 0] ?_; simp only [List.map_cons, List.map_nil, go_sem]
  refine ALoop.lay 1 ?_
  refine ALoop.acc (fun k G => [(3, .slice H.length (pick p k).length 0 (pick p k).length false), (4, .int .i64 (k : Int))]) (fun k G => H ++ .arr 1 (ints (pick p k)) false :: G) (fun k G => True) n ?_ (a0 := []) trivial
  intro k G hk _ next
  refine ALoop.hid fun W hW => ?_
  have k2 := k2.ex hW.ex
  have k20 := k2.at
  have k1 := k1.ex hW.ex
  have k10 := k1.at
  have ko := hW.keep0
  have ko0 := ko.at
  have kos := ko.set
  have hb : ((pick p k).length + 1) * 8 ≤ 140737488355328 := by have := pick_length (p := p) (k := k); omega
  refine ALoop.unfold ?_
  have hw := wrap_succ (k := k) (by omega)
  by_cases hkn : k < n
  · have hkr : k < m.rows.length := by rw [h.len]; exact hkn
    have hr := row_ok h.ok hkr
    have hpk := hp k
    have hg : (m.rows.map RowM.cells)[k]? = some (row m.rows k).cells := by rw [List.getElem?_map, row_some hkr]; rfl
    have hlm := h.mlen
    have hc := cells_get16 hr
    rw [← hpk] at hc
    have hW' : Hid (W = _) := hW
    clear hpk hp hr
    cases hpk : p k with
    | true =>
      have e := pick_t hpk
      rw [e] at next
      rw [hpk] at hc
      clear e hpk
      (try simp only [wpx_of k42_0.eq_1, wpx_of k42_1.eq_1, wpx_of k42_3.eq_1, k2, k20, k10, ko, ko0, kos, hw, hg, hc, hlm, hkn, hb, wpx_of b42_2.eq_1, nlt_iff, n0_le, List.cons_append, List.nil_append, go_sem]); repeat' ((first
    | refine And.intro (Or.inr rfl) ?_
    | ((first | refine cB ?_ ?_ | refine gT ?_ ?_ | refine gF ?_ ?_ | refine dT ?_ ?_ | refine dF ?_ ?_) <;> intro hc)) <;> try simp only [*, wpx_of k42_0.eq_1, wpx_of k42_1.eq_1, wpx_of k42_3.eq_1, k2, k20, k10, ko, ko0, kos, hw, hg, hc, hlm, hkn, hb, wpx_of b42_2.eq_1, nlt_iff, n0_le, List.cons_append, List.nil_append, go_sem])
      have nx := next (G ++ [.arr 1 [[.int .i64 (k : Int)]] false]) hkn trivial
      rw [show (pick p k ++ [(k : Int)]).length = (pick p k).length + 1 by simp] at nx
      refine ALoop.heap (H' := H ++ .arr 1 (ints (pick p k ++ [(k : Int)])) false :: (G ++ [.arr 1 [[.int .i64 (k : Int)]] false])) ?_ ?_
      · have hW' : W = _ := hW'
        subst hW'; simp [ints_append, ints]
      · (refine ALoop.keep [3, 4, 0] ?_; simp only [List.map_cons, List.map_nil, go_sem]; refine nx)
    | false =>
      have e := pick_f hpk
      rw [e] at next
      rw [hpk] at hc
      clear e hpk
      (try simp only [wpx_of k42_0.eq_1, wpx_of k42_1.eq_1, wpx_of k42_3.eq_1, k2, k20, k10, ko, ko0, kos, hw, hg, hc, hlm, hkn, hb, wpx_of b42_2.eq_1, nlt_iff, n0_le, List.cons_append, List.nil_append, go_sem]); repeat' ((first
    | refine And.intro (Or.inr rfl) ?_
    | ((first | refine cB ?_ ?_ | refine gT ?_ ?_ | refine gF ?_ ?_ | refine dT ?_ ?_ | refine dF ?_ ?_) <;> intro hc)) <;> try simp only [*, wpx_of k42_0.eq_1, wpx_of k42_1.eq_1, wpx_of k42_3.eq_1, k2, k20, k10, ko, ko0, kos, hw, hg, hc, hlm, hkn, hb, wpx_of b42_2.eq_1, nlt_iff, n0_le, List.cons_append, List.nil_append, go_sem])
      have nx := next G hkn trivial
      refine ALoop.heap (H' := H ++ .arr 1 (ints (pick p k)) false :: G) ?_ ?_
      · have hW' : W = _ := hW'
        subst hW'; simp
      · (refine ALoop.keep [3, 4, 0] ?_; simp only [List.map_cons, List.map_nil, go_sem]; refine nx)
  · have hk : k = n := by omega
    subst hk
    (try simp only [wpx_of k42_0.eq_1, wpx_of k42_1.eq_1, wpx_of k42_3.eq_1, k2, k20, k10, ko, ko0, kos, hw, hkn, hb, wpx_of b42_2.eq_1, nlt_iff, n0_le, List.cons_append, List.nil_append, go_sem]); repeat' ((first
    | refine And.intro (Or.inr rfl) ?_
    | ((first | refine cB ?_ ?_ | refine gT ?_ ?_ | refine gF ?_ ?_ | refine dT ?_ ?_ | refine dF ?_ ?_) <;> intro hc)) <;> try simp only [*, wpx_of k42_0.eq_1, wpx_of k42_1.eq_1, wpx_of k42_3.eq_1, k2, k20, k10, ko, ko0, kos, hw, hkn, hb, wpx_of b42_2.eq_1, nlt_iff, n0_le, List.cons_append, List.nil_append, go_sem])
    have hW : W = _ := hW
    subst hW
    exact Gc.slice (i := 0) rfl ints_plain hK

theorem refG_Fuse_spec {calls : Int} (h : MemG H oM oR n f kv m) (ho : H[o]? = some (.arr 1 (ints l) ro)) (hl : l.length ≤ 1000) (hc : calls ≤ 9223372036854775807) (hc0 : -9223372036854775808 ≤ calls) (hK : ∀ kv' L, MemG (memH H oM oR n f kv' (fuseW m calls l) ++ L) oM oR n f kv' (fuseW m calls l) → K (.tup []) (memH H oM oR n f kv' (fuseW m calls l) ++ L)) :
    ACalls Try.prog 38 [.ptr oM 1 0 0, .int .i64 calls, .slice o l.length 0 l.length fl] H K := by
  have k1 := Keeps.of h.cell
  have k0 := k1.at
  have kM := k1.set
  cases hoff : m.off with
  | true =>
    have e : fuseW m calls l = m := by unfold fuseW; rw [hoff]; rfl
    rw [e] at hK
    rw [hoff] at k0
    have hK' := hK kv []
    rw [List.append_nil, memH_self h] at hK'
    refine ACalls.into ok38 (Nat.le_of_ble_eq_true rfl) ?_; (try simp only [c38, wpx_of k38_0.eq_1, k0, go_sem]); repeat' ((first
    | refine And.intro (Or.inr rfl) ?_
    | ((first | refine cB ?_ ?_ | refine gT ?_ ?_ | refine gF ?_ ?_ | refine dT ?_ ?_ | refine dF ?_ ?_) <;> intro hc)) <;> try simp only [*, wpx_of k38_0.eq_1, k0, go_sem])
    all_goals exact hK' h
  | false =>
    have e : fuseW m calls l = { m with fuse := calls, keep := l } := by unfold fuseW; rw [hoff]; rfl
    rw [e] at hK
    rw [hoff] at k0 k1
    have kO := Keeps.of ho
    have kS : ∀ y L, (H.set oM y ++ L)[oM]? = some y := fun y L => k1.self y L
    have kS2 := set_app_set h.mem
    have lM := (List.getElem?_eq_some_iff.1 h.mem).1
    have fin : ∀ (q : Nat) (g : Bool) (L : Heap), (H ++ L)[q]? = some (.arr 1 (ints l) false) → K (.tup []) (H.set oM (.arr 5 [[.slice oR n 0 n f, .bool false, .int .i64 m.c, .int .i64 calls, .slice q l.length 0 l.length g]] false) ++ L) := by
      intro q g L hq
      have hqM : q ≠ oM := by rintro rfl; rw [k1 L] at hq; simp at hq
      have e2 : AObj.arr 5 [[.slice oR n 0 n f, .bool false, .int .i64 m.c, .int .i64 calls, .slice q l.length 0 l.length g]] false = memG oR n f (.slice q l.length 0 l.length g) { m with fuse := calls, keep := l } := by unfold memG; simp only [hoff]
      have e4 : memH H oM oR n f (.slice q l.length 0 l.length g) { m with fuse := calls, keep := l } ++ L = H.set oM (.arr 5 [[.slice oR n 0 n f, .bool false, .int .i64 m.c, .int .i64 calls, .slice q l.length 0 l.length g]] false) ++ L := by rw [memH_kv (m' := { m with fuse := calls, keep := l }) h rfl, e2]
      have hK' := hK (.slice q l.length 0 l.length g) L
      rw [e4] at hK'
      refine hK' ⟨?_, ?_, ?_, h.len, h.ok, h.le, h.c0, h.c1, hc0, hc, hl⟩
      · rw [e2]
        exact Keeps.of (List.getElem?_set_self lM) L
      · exact Keeps.of (by rw [List.getElem?_set_ne h.ne]; exact h.robj) L
      · refine .inr ⟨q, g, false, rfl, ?_⟩
        rw [← List.set_append_left _ _ lM, List.getElem?_set_ne (Ne.symm hqM)]; exact hq
    by_cases hn0 : l = []
    · subst hn0
      have hq0 := fun L => fin (H.length) true (.arr 1 [] false :: L) (by simp [ints])
      refine ACalls.into ok38 (Nat.le_of_ble_eq_true rfl) ?_; (try simp only [c38, wpx_of k38_0.eq_1, k0, k1, kM, kO, kS, kS2, List.set_set, go_sem]); repeat' ((first
    | refine And.intro (Or.inr rfl) ?_
    | ((first | refine cB ?_ ?_ | refine gT ?_ ?_ | refine gF ?_ ?_ | refine dT ?_ ?_ | refine dF ?_ ?_) <;> intro hc)) <;> try simp only [*, wpx_of k38_0.eq_1, k0, k1, kM, kO, kS, kS2, List.set_set, go_sem])
      all_goals exact hq0 _
    · have hn : (l.length = 0) = False := eq_false (by simpa using hn0)
      have he : (ints l = []) = False := eq_false (by simpa [ints] using hn0)
      have hb : (0 + l.length) * 8 ≤ 140737488355328 := by omega
      have hb2 : l.length * 8 ≤ 140737488355328 := by omega
      have ht : (ints l).take l.length = ints l := by rw [List.take_of_length_le (by simp [ints])]
      refine ACalls.into ok38 (Nat.le_of_ble_eq_true rfl) ?_; (try simp only [c38, wpx_of k38_0.eq_1, k0, k1, kM, kO, kS, kS2, List.set_set, hn, he, hb, hb2, ht, go_sem]); repeat' ((first
    | refine And.intro (Or.inr rfl) ?_
    | ((first | refine cB ?_ ?_ | refine gT ?_ ?_ | refine gF ?_ ?_ | refine dT ?_ ?_ | refine dF ?_ ?_) <;> intro hc)) <;> try simp only [*, wpx_of k38_0.eq_1, k0, k1, kM, kO, kS, kS2, List.set_set, hn, he, hb, hb2, ht, go_sem])
      all_goals exact fin _ _ _ at1
end
end Go.Proofs.Ytfahkkefcdeohaa.Ax
