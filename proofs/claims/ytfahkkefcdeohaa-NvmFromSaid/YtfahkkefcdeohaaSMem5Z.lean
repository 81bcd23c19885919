/- Memories of rows: made, and made of words. Conditions: none. -/
import Derived.Test.YtfahkkefcdeohaaSMem4Z
set_option linter.unusedSimpArgs false
set_option linter.unusedVariables false
namespace Go.Ax.M
open Go Go.Ax
def part8 (l : List Int) (i : Nat) : List Int := (l.drop (8 * i)).take 8
def rowsF (l : List Int) : List RowM := (List.range (l.length / 8)).map fun i => ⟨part8 l i, part8 l i, false, false⟩
def padF (l : List Int) (k : Nat) : List Int := l.take k ++ List.replicate (l.length - k) 0
def rowF (r : RowM) (q v : Int) : RowM := { r with la := r.la.set q.toNat v, nw := r.nw.set q.toNat v }
theorem padF_len {l : List Int} {k : Nat} (h : k ≤ l.length) : (padF l k).length = l.length := by simp [padF]; omega
theorem padF_zero {l : List Int} : padF l 0 = List.replicate l.length 0 := by simp [padF]
theorem padF_all {l : List Int} : padF l l.length = l := by simp [padF]
theorem padF_succ {l : List Int} {k : Nat} (h : k < l.length) : padF l (k + 1) = (padF l k).set k (l.getD k 0) := by
  have e : l.getD k 0 = l[k] := by simp [List.getD, h]
  rw [e]
  apply List.ext_getElem
  · rw [List.length_set, padF_len (by omega), padF_len (by omega)]
  · intro i h1 h2
    rw [padF_len (by omega)] at h1
    simp only [padF, List.getElem_set, List.getElem_append, List.length_take, List.getElem_take, List.getElem_replicate]
    by_cases e : k = i
    · subst e; rw [dif_pos (by omega), if_pos rfl]
    · rw [if_neg e]
      by_cases h3 : i < k
      · rw [dif_pos (by omega), dif_pos (by omega)]
      · rw [dif_neg (by omega), dif_neg (by omega)]
theorem rowsF_len {l : List Int} : (rowsF l).length = l.length / 8 := by simp [rowsF]
theorem rowsF_row {l : List Int} {i : Nat} (h : i < l.length / 8) : row (rowsF l) i = ⟨part8 l i, part8 l i, false, false⟩ := by simp [rowsF, row, List.getD, h]
theorem rowsF_ok {l : List Int} : ∀ r ∈ rowsF l, r.ok := by
  intro r hr
  simp only [rowsF, List.mem_map, List.mem_range] at hr
  obtain ⟨i, hi, rfl⟩ := hr
  have : (part8 l i).length = 8 := by simp [part8]; omega
  exact ⟨this, this⟩
theorem part8_set {l : List Int} {k i : Nat} {v : Int} : part8 (l.set k v) i = if i = k / 8 then (part8 l i).set (k % 8) v else part8 l i := by
  apply List.ext_getElem?
  intro j
  have hk := Nat.div_add_mod k 8
  split
  · rename_i e; subst e
    simp only [part8, List.getElem?_take, List.getElem?_drop, List.getElem?_set, List.length_take, List.length_drop]
    by_cases h8 : j < 8
    · rw [if_pos h8, if_pos h8]
      by_cases e : k % 8 = j
      · subst e
        rw [if_pos (by omega), if_pos rfl]
        by_cases h : k < l.length
        · rw [if_pos h, if_pos (by omega)]
        · rw [if_neg h, if_neg (by omega)]
      · rw [if_neg (by omega), if_neg e]
    · rw [if_neg h8]
      by_cases e : k % 8 = j
      · omega
      · rw [if_neg e, if_neg h8]
  · rename_i e
    simp only [part8, List.getElem?_take, List.getElem?_drop, List.getElem?_set]
    split
    · rw [if_neg (by omega)]
    · rfl
theorem rowsF_set {l : List Int} {k : Nat} {v : Int} (h8 : l.length % 8 = 0) (h : k < l.length) : rowsF (l.set k v) = (rowsF l).set (k / 8) (rowF (row (rowsF l) (k / 8)) ((k % 8 : Nat) : Int) v) := by
  refine rows_ext (by simp [rowsF_len]) fun i hi => ?_
  rw [List.length_set, rowsF_len] at hi
  rw [row_set (by rw [rowsF_len]; exact hi), rowsF_row (by rw [List.length_set]; exact hi), part8_set]
  by_cases e : i = k / 8
  · subst e
    rw [if_pos rfl, if_pos rfl, rowsF_row hi]; rfl
  · rw [if_neg e, if_neg e, rowsF_row hi]
theorem rowsF_zero {n : Nat} : rowsF (List.replicate (8 * n) 0) = List.replicate n row0 := by
  refine rows_ext (by simp [rowsF_len]) fun i hi => ?_
  simp only [List.length_replicate] at hi
  rw [rowsF_row (by rw [List.length_replicate]; omega)]
  have e : part8 (List.replicate (8 * n) 0) i = [0, 0, 0, 0, 0, 0, 0, 0] := by
    simp only [part8, List.drop_replicate, List.take_replicate]
    rw [show min 8 (8 * n - 8 * i) = 8 by omega]; rfl
  rw [e]
  simp [row, List.getD, hi, row0]
theorem wordsM_rowsF {l : List Int} (h8 : l.length % 8 = 0) : wordsM (rowsF l) = l := by
  have key : ∀ k, k ≤ l.length / 8 → wordsM ((rowsF l).take k) = l.take (8 * k) := by
    intro k
    induction k with
    | zero => intro _; simp [wordsM]
    | succ k ih =>
      intro hk
      rw [wordsM_succ (by rw [rowsF_len]; omega), ih (by omega), rowsF_row (by omega)]
      simp only [part8]
      rw [show 8 * (k + 1) = 8 * k + 8 by omega, List.take_add]
  have := key (l.length / 8) (Nat.le_refl _)
  rw [List.take_of_length_le (by rw [rowsF_len]; omega)] at this
  rw [this, List.take_of_length_le (by omega)]
theorem cells_set8 {r : RowM} (h : r.ok) {q : Nat} (hq : q < 8) {v : Int} : (r.cells.set (8 + q) (.int .u64 v)).set q (.int .u64 v) = (rowF r q v).cells := by
  obtain ⟨la, nw, out, sent⟩ := r
  obtain ⟨a0, a1, a2, a3, a4, a5, a6, a7, rfl⟩ := eight h.la
  obtain ⟨b0, b1, b2, b3, b4, b5, b6, b7, rfl⟩ := eight h.nw
  match q, hq with
  | 0, _ | 1, _ | 2, _ | 3, _ | 4, _ | 5, _ | 6, _ | 7, _ => rfl
end Go.Ax.M
namespace Go.Proofs.Ytfahkkefcdeohaa.Ax
open Go Go.Ax Go.Ax.M
section
variable {H : Heap} {K : AVal → Heap → Prop} {oM oR n o p : Nat} {f fl fp ro rp : Bool} {kv : AVal} {m : MemM} {l : List Int}
theorem nvm_New_bad {x : Int} (h : x < 1 ∨ 4096 < x) (hK : K (.tup [.lit (.pointer none), .int .i64 1]) H) : ACalls Try.prog 14 [.int .i64 x] H K := by
  rcases h with h | h
  · refine ACalls.into ok14 (Nat.le_of_ble_eq_true rfl) ?_; (try simp only [c14, wpx_of k14_0.eq_1, wpx_of k14_1.eq_1, wpx_of k14_2.eq_1, h, go_sem]); repeat' ((first
    | refine And.intro (Or.inr rfl) ?_
    | ((first | refine cB ?_ ?_ | refine gT ?_ ?_ | refine gF ?_ ?_ | refine dT ?_ ?_ | refine dF ?_ ?_) <;> intro hc)) <;> try simp only [*, wpx_of k14_0.eq_1, wpx_of k14_1.eq_1, wpx_of k14_2.eq_1, h, go_sem])
    all_goals exact hK
  · have h1 : (x < 1) = False := eq_false (by omega)
    refine ACalls.into ok14 (Nat.le_of_ble_eq_true rfl) ?_; (try simp only [c14, wpx_of k14_0.eq_1, wpx_of k14_1.eq_1, wpx_of k14_2.eq_1, h, h1, go_sem]); repeat' ((first
    | refine And.intro (Or.inr rfl) ?_
    | ((first | refine cB ?_ ?_ | refine gT ?_ ?_ | refine gF ?_ ?_ | refine dT ?_ ?_ | refine dF ?_ ?_) <;> intro hc)) <;> try simp only [*, wpx_of k14_0.eq_1, wpx_of k14_1.eq_1, wpx_of k14_2.eq_1, h, h1, go_sem])
    all_goals exact hK

theorem nvm_From_spec (ho : H[o]? = some (.arr 1 (words l) ro)) (h8 : l.length % 8 = 0) (h0 : 0 < l.length) (h1 : l.length ≤ 32768)
    (hK : K (.tup [.ptr (H.length + 1) 1 0 0, .int .i64 0]) (H ++ [rowsO (rowsF l), memO H.length (l.length / 8) true false 0])) : ACalls Try.prog 23 [.slice o l.length 0 l.length fl] H K := by
  obtain ⟨n, hn⟩ : ∃ n, Hid (n = l.length / 8) := hide _
  have hn1 : n = l.length / 8 := hn
  rw [← hn1] at hK
  have hq : IntKind.wrap .i64 ((l.length : Int).tdiv 8) = (n : Int) := by
    rw [Int.tdiv_eq_ediv_of_nonneg (by omega), hn1]; exact w64' (by omega) (by omega)
  have hr : (l.length : Int).tmod 8 = 0 := by rw [Int.tmod_eq_emod_of_nonneg (by omega)]; omega
  have k1 := Keeps.of ho
  clear hn1
  refine ACalls.into ok23 (Nat.le_of_ble_eq_true rfl) ?_; (try simp only [c23, wpx_of k23_0.eq_1, wpx_of k23_1.eq_1, wpx_of k23_2.eq_1, wpx_of k23_3.eq_1, wpx_of k23_4.eq_1, wpx_of k23_6.eq_1, wpx_of k23_7.eq_1, wpx_of k23_8.eq_1, wpx_of k23_9.eq_1, hq, hr, k1, go_sem]); repeat' ((first
    | refine And.intro (Or.inr rfl) ?_
    | ((first | refine cB ?_ ?_ | refine gT ?_ ?_ | refine gF ?_ ?_ | refine dT ?_ ?_ | refine dF ?_ ?_) <;> intro hc)
    | refine nvm_New_spec (n := n) (by have hn : n = _ := hn; omega) (by have hn : n = _ := hn; omega) ?_) <;> try simp only [*, wpx_of k23_0.eq_1, wpx_of k23_1.eq_1, wpx_of k23_2.eq_1, wpx_of k23_3.eq_1, wpx_of k23_4.eq_1, wpx_of k23_6.eq_1, wpx_of k23_7.eq_1, wpx_of k23_8.eq_1, wpx_of k23_9.eq_1, hq, hr, k1, go_sem])
  refine ALoop.keep [26, 4, 24, 25] ?_; simp only [List.map_cons, List.map_nil, go_sem]
  have hl8 : l.length = 8 * n := by have hn : n = _ := hn; omega
  refine ALoop.heap (H' := H ++ [rowsO (rowsF (padF l 0)), memO H.length n true false 0]) (by rw [padF_zero, hl8, rowsF_zero]) ?_
  have hl8' : Hid (l.length = 8 * n) := hl8
  clear hl8
  refine ALoop.acc (α := Unit) (fun k _ => [(26, .int .i64 (k : Int))]) (fun k _ => H ++ [rowsO (rowsF (padF l k)), memO H.length n true false 0]) (fun _ _ => True) l.length ?_ (a0 := ()) trivial
  intro k _ hk _ next
  refine ALoop.unfold ?_
  have hw := wrap_succ (k := k) (by omega)
  by_cases hkl : k < l.length
  · have hg := words_get hkl
    have hpl := padF_len (l := l) (k := k) hk
    have hl8 : l.length = 8 * n := hl8'
    have hlen : (rowsF (padF l k)).length = n := by rw [rowsF_len, hpl]; exact hn.symm
    have hlm : ((rowsF (padF l k)).map RowM.cells).length = n := by rw [List.length_map, hlen]
    have hin : k / 8 < n := by omega
    have hq2 : IntKind.wrap .i64 ((k : Int).tdiv 8) = ((k / 8 : Nat) : Int) := by
      rw [Int.tdiv_eq_ediv_of_nonneg (by omega)]; exact w64' (by omega) (by omega)
    have hr2 : (k : Int).tmod 8 = ((k % 8 : Nat) : Int) := by rw [Int.tmod_eq_emod_of_nonneg (by omega)]; omega
    have hq8 : k % 8 < 8 := Nat.mod_lt _ (by decide)
    have c1 : (((k % 8 : Nat) : Int) < 8) = True := eq_true (by omega)
    have c2 : (8 + (k % 8 + 1) ≤ 18) = True := eq_true (by omega)
    have c3 : (8 + k % 8 ≤ 17) = True := eq_true (by omega)
    have c4 : (k % 8 + 1 ≤ 18) = True := eq_true (by omega)
    have c5 : (k % 8 ≤ 17) = True := eq_true (by omega)
    have c6 : ∀ c, (((rowsF (padF l k)).map RowM.cells).set (k / 8) c)[k / 8]? = some c := fun c => List.getElem?_set_self (by omega)
    have hrk := row_ok (rows := rowsF (padF l k)) rowsF_ok (k := k / 8) (by omega)
    have hgr : ((rowsF (padF l k)).map RowM.cells)[k / 8]? = some (row (rowsF (padF l k)) (k / 8)).cells := by rw [List.getElem?_map, row_some (by omega)]; rfl
    have hset : rowsF (padF l (k + 1)) = (rowsF (padF l k)).set (k / 8) (rowF (row (rowsF (padF l k)) (k / 8)) ((k % 8 : Nat) : Int) (l.getD k 0)) := by rw [padF_succ hkl]; exact rowsF_set (v := l.getD k 0) (by rw [hpl]; exact h8) (by rw [hpl]; exact hkl)
    clear hl8
    (try simp only [wpx_of k23_0.eq_1, wpx_of k23_1.eq_1, wpx_of k23_2.eq_1, wpx_of k23_3.eq_1, wpx_of k23_4.eq_1, wpx_of k23_6.eq_1, wpx_of k23_7.eq_1, wpx_of k23_8.eq_1, wpx_of k23_9.eq_1, k1, hg, hw, hkl, rowsO, memO, hq2, hr2, hlm, hin, hgr, c1, c2, c3, c4, c5, c6, List.length_set, List.set_set, wpx_of b23_5.eq_1, nlt_iff, n0_le, Int.toNat_natCast, List.cons_append, List.nil_append, Nat.add_assoc, go_sem]); repeat' ((first
    | refine And.intro (Or.inr rfl) ?_
    | ((first | refine cB ?_ ?_ | refine gT ?_ ?_ | refine gF ?_ ?_ | refine dT ?_ ?_ | refine dF ?_ ?_) <;> intro hc)) <;> try simp only [*, wpx_of k23_0.eq_1, wpx_of k23_1.eq_1, wpx_of k23_2.eq_1, wpx_of k23_3.eq_1, wpx_of k23_4.eq_1, wpx_of k23_6.eq_1, wpx_of k23_7.eq_1, wpx_of k23_8.eq_1, wpx_of k23_9.eq_1, k1, hg, hw, hkl, rowsO, memO, hq2, hr2, hlm, hin, hgr, c1, c2, c3, c4, c5, c6, List.length_set, List.set_set, wpx_of b23_5.eq_1, nlt_iff, n0_le, Int.toNat_natCast, List.cons_append, List.nil_append, Nat.add_assoc, go_sem])
    rw [cells_set8 hrk hq8, rows_set, ← hset]
    refine ALoop.heap (H' := H ++ [rowsO (rowsF (padF l (k + 1))), memO H.length n true false 0]) ?_ ?_
    · rfl
    · (refine ALoop.keep [26, 4, 24, 25] ?_; simp only [List.map_cons, List.map_nil, go_sem]; refine next () hkl trivial)
  · have hk : k = l.length := by omega
    subst hk
    rw [padF_all]
    (try simp only [wpx_of k23_0.eq_1, wpx_of k23_1.eq_1, wpx_of k23_2.eq_1, wpx_of k23_3.eq_1, wpx_of k23_4.eq_1, wpx_of k23_6.eq_1, wpx_of k23_7.eq_1, wpx_of k23_8.eq_1, wpx_of k23_9.eq_1, k1, hw, hkl, wpx_of b23_5.eq_1, nlt_iff, n0_le, List.cons_append, List.nil_append, go_sem]); repeat' ((first
    | refine And.intro (Or.inr rfl) ?_
    | ((first | refine cB ?_ ?_ | refine gT ?_ ?_ | refine gF ?_ ?_ | refine dT ?_ ?_ | refine dF ?_ ?_) <;> intro hc)) <;> try simp only [*, wpx_of k23_0.eq_1, wpx_of k23_1.eq_1, wpx_of k23_2.eq_1, wpx_of k23_3.eq_1, wpx_of k23_4.eq_1, wpx_of k23_6.eq_1, wpx_of k23_7.eq_1, wpx_of k23_8.eq_1, wpx_of k23_9.eq_1, k1, hw, hkl, wpx_of b23_5.eq_1, nlt_iff, n0_le, List.cons_append, List.nil_append, go_sem])
    all_goals exact hK
end
end Go.Proofs.Ytfahkkefcdeohaa.Ax
