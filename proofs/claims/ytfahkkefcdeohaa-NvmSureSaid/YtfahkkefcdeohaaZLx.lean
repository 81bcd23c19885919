/- Texts put behind one another: LFrom, LSure. Conditions: none. -/
import Derived.Test.YtfahkkefcdeohaaSLawB3Z
set_option linter.unusedSimpArgs false
set_option linter.unusedVariables false
/- The law of memories made of words, walked. Conditions: none. -/
namespace Go.Ax.M
open Go Go.Ax
theorem memH_at {H L : Heap} {a b : AObj} {n : Nat} {f : Bool} {kv : AVal} {m : MemM} : memH (H ++ a :: b :: L) (H.length + 1) H.length n f kv m = H ++ rowsO m.rows :: memG H.length n f kv m :: L := by
  unfold memH
  rw [List.set_append_right _ _ (by omega), List.set_append_right _ _ (by omega)]
  simp
end Go.Ax.M
namespace Go.Proofs.Ytfahkkefcdeohaa.Ax
open Go Go.Ax Go.Ax.M
set_option maxRecDepth 100000
end Go.Proofs.Ytfahkkefcdeohaa.Ax

/- The law of what is sure to last, walked. Conditions: none. -/
namespace Go.Ax.M
open Go Go.Ax
def mk (rows : List RowM) (c : Int) : MemM := ⟨rows, false, c, 0, []⟩
theorem burnM_mk {rows : List RowM} {c : Int} : burnM (mk rows c) = (mk rows (c + 1), true) := rfl
theorem storeM_mk {rows : List RowM} {c at_ v : Int} (ok : ∀ r ∈ rows, r.ok) : ∃ rows' c', (storeM (mk rows c) at_ v).1 = mk rows' c' ∧ c ≤ c' ∧ c' ≤ c + 1 ∧ rows'.length = rows.length ∧ (∀ r ∈ rows', r.ok) ∧
    ∀ i, i < rows.length → (row rows' i).la = (row rows i).la ∧ ((row rows' i).out = false → row rows' i = row rows i) := by
  unfold storeM doneM
  split
  · rename_i he
    rw [burnM_mk]
    have hr := (mayN_zero.1 he).2
    have hin : atRow at_ < rows.length := by simp only [mk] at hr; unfold atRow; omega
    refine ⟨storeG at_ v rows, c + 1, rfl, by omega, by omega, storeG_len _ _ _, set_ok ok (store_ok (row_ok ok hin) _ _), fun i hi => ?_⟩
    unfold storeG
    rw [row_set hi]
    split
    · rename_i e; subst e
      unfold rowStore
      split
      · exact ⟨rfl, fun h => by cases h⟩
      · exact ⟨rfl, fun _ => rfl⟩
    · exact ⟨rfl, fun _ => rfl⟩
  · exact ⟨rows, c, rfl, by omega, by omega, rfl, ok, fun i _ => ⟨rfl, fun _ => rfl⟩⟩
theorem flushM_mk {rows : List RowM} {c : Int} {k : Nat} (h : k < rows.length) : flushM (mk rows c) (k : Int) = (mk (rows.set k (rowFlush (row rows k))) (c + 1), 0) := by
  unfold flushM doneM
  have : mayR (mk rows c) (k : Int) = 0 := mayN_zero.2 ⟨rfl, by omega, by simp only [mk]; omega⟩
  rw [if_pos this, burnM_mk]; rfl
theorem fenceM_mk {rows : List RowM} {c : Int} : fenceM (mk rows c) = (mk (fenceR rows) (c + 1), 0) := rfl
theorem crashM_mk {rows : List RowM} {c : Int} {l : List Int} : crashM (mk rows c) l = ⟨fallR l rows, true, c, 0, []⟩ := rfl
def flushR (rows : List RowM) (k : Nat) : List RowM := turnedR (fun _ r => rowFlush r) rows k
def CalmR (rows : List RowM) : Prop := ∀ i, i < rows.length → (row rows i).out = false ∧ (row rows i).la = (row rows i).nw
def Half (rows : List RowM) : Prop := ∀ i, i < rows.length → (row rows i).out = false → (row rows i).la = (row rows i).nw
theorem calm_fence {rows : List RowM} (h : Half rows) : CalmR (fenceR (flushR rows rows.length)) := by
  intro i hi
  rw [fenceR_len, flushR, turnedR_len] at hi
  have e : row (fenceR (flushR rows rows.length)) i = rowFence (rowFlush (row rows i)) := by
    unfold fenceR flushR
    rw [turnedR_row (by rw [turnedR_len]; exact hi), if_pos (by rw [turnedR_len]; exact hi), turnedR_row hi, if_pos hi]; rfl
  rw [e]
  have := h i hi
  generalize row rows i = r at *
  obtain ⟨la, nw, out, sent⟩ := r
  cases out <;> cases sent <;> simp_all [rowFence, rowFlush, rowEvict]
theorem outM_calm {rows : List RowM} (h : CalmR rows) : outM rows = [] := by
  simp only [outM, pick, List.map_eq_nil_iff, List.filter_eq_nil_iff, List.mem_range]
  intro i hi; simp [(h i hi).1]
theorem wordsM_get {rows : List RowM} (ok : ∀ r ∈ rows, r.ok) {i j : Nat} (hi : i < rows.length) (hj : j < 8) : (wordsM rows)[8 * i + j]? = (row rows i).nw[j]? := by
  induction rows generalizing i with
  | nil => simp at hi
  | cons r l ih =>
    have hr := (ok r List.mem_cons_self).nw
    have e : wordsM (r :: l) = r.nw ++ wordsM l := rfl
    rw [e]
    cases i with
    | zero => rw [List.getElem?_append_left (by omega)]; simp [row]
    | succ i =>
      rw [List.getElem?_append_right (by omega), hr, show 8 * (i + 1) + j - 8 = 8 * i + j by omega, ih (fun x hx => ok x (List.mem_cons_of_mem _ hx)) (by simpa using hi)]
      simp [row]
theorem wordsM_eq {a b : List RowM} (oka : ∀ r ∈ a, r.ok) (okb : ∀ r ∈ b, r.ok) {i k : Nat} (ha : i < a.length) (hb : i < b.length) (h0 : 8 * i ≤ k) (h1 : k < 8 * i + 8) (h : (row a i).nw = (row b i).nw) : (wordsM a).getD k 0 = (wordsM b).getD k 0 := by
  obtain ⟨j, rfl⟩ : ∃ j, k = 8 * i + j := ⟨k - 8 * i, by omega⟩
  simp only [List.getD]
  rw [wordsM_get oka ha (by omega), wordsM_get okb hb (by omega), h]
theorem fall_rows {rows : List RowM} {l : List Int} {i : Nat} (hi : i < rows.length) : row (fallR l rows) i = rowFall (hasI l (i : Int)) (row rows i) := by
  unfold fallR; rw [turnedR_row hi, if_pos hi]; rfl
end Go.Ax.M
namespace Go.Proofs.Ytfahkkefcdeohaa.Ax
open Go Go.Ax Go.Ax.M
set_option maxRecDepth 100000
set_option maxHeartbeats 2000000 in
theorem nvmSure_law (H : Heap) (bs : List AVal) (h : ArgShapes Try.prog H 8 [35, 35, 40] bs) : ACalls Try.prog 5 bs H fun v _ => v = .bool true := by
  obtain ⟨a1, l, rfl, h1, h⟩ := argShapes_cons h
  obtain ⟨a2, l, rfl, h2, h⟩ := argShapes_cons h
  obtain ⟨a3, l, rfl, h3, h⟩ := argShapes_cons h
  obtain rfl := argShapes_nil h
  obtain ⟨oA, acts, rfl, hA⟩ := arg_acts3 h1
  obtain ⟨oB, more, rfl, hB⟩ := arg_acts3 h2
  obtain ⟨oK, keep, rfl, hK⟩ := arg_ints h3
  clear h1 h2 h3 h
  have kA := Keeps.of hA
  have kB := Keeps.of hB
  have kK := Keeps.of hK
  have hm : ∀ (rows : List RowM) (off : Bool) (c : Int) (L : Heap), rows.length = 4 → (∀ r ∈ rows, r.ok) → 0 ≤ c → c ≤ 1000 →
      MemG (H ++ rowsO rows :: memG H.length 4 true (.lit (.slice none 0 0)) ⟨rows, off, c, 0, []⟩ :: L) (H.length + 1) H.length 4 true (.lit (.slice none 0 0)) ⟨rows, off, c, 0, []⟩ := fun rows off c L hl ok h0 h1 =>
    ⟨at1, at0, .inl ⟨rfl, rfl⟩, hl, ok, by decide, h0, by simp only; omega, by simp, by simp, by simp⟩
  refine ACalls.into ok5 (Nat.le_of_ble_eq_true rfl) ?_; (try simp only [c5, wpx_of k5_0.eq_1, wpx_of k5_1.eq_1, wpx_of k5_2.eq_1, wpx_of k5_3.eq_1, wpx_of k5_5.eq_1, wpx_of k5_6.eq_1, wpx_of k5_8.eq_1, wpx_of k5_9.eq_1, wpx_of k5_11.eq_1, wpx_of k5_12.eq_1, wpx_of k5_14.eq_1, wpx_of k5_15.eq_1, wpx_of k5_17.eq_1, wpx_of k5_18.eq_1, wpx_of k5_19.eq_1, wpx_of k5_21.eq_1, wpx_of k5_22.eq_1, wpx_of k5_23.eq_1, wpx_of k5_24.eq_1, wpx_of k5_25.eq_1, wpx_of k5_26.eq_1, wpx_of k5_27.eq_1, wpx_of k5_28.eq_1, wpx_of k5_29.eq_1, wpx_of k5_30.eq_1, wpx_of k5_31.eq_1, wpx_of k5_32.eq_1, wpx_of k5_33.eq_1, wpx_of k5_34.eq_1, kA, kB, kK, Nat.add_assoc, go_sem]); repeat' ((first
    | refine And.intro (Or.inr rfl) ?_
    | ((first | refine cB ?_ ?_ | refine gT ?_ ?_ | refine gF ?_ ?_ | refine dT ?_ ?_ | refine dF ?_ ?_) <;> intro hc)
    | refine awake3_spec ?_
    | refine nvm_New_spec (n := 4) (by decide) (by decide) ?_) <;> try simp only [*, wpx_of k5_0.eq_1, wpx_of k5_1.eq_1, wpx_of k5_2.eq_1, wpx_of k5_3.eq_1, wpx_of k5_5.eq_1, wpx_of k5_6.eq_1, wpx_of k5_8.eq_1, wpx_of k5_9.eq_1, wpx_of k5_11.eq_1, wpx_of k5_12.eq_1, wpx_of k5_14.eq_1, wpx_of k5_15.eq_1, wpx_of k5_17.eq_1, wpx_of k5_18.eq_1, wpx_of k5_19.eq_1, wpx_of k5_21.eq_1, wpx_of k5_22.eq_1, wpx_of k5_23.eq_1, wpx_of k5_24.eq_1, wpx_of k5_25.eq_1, wpx_of k5_26.eq_1, wpx_of k5_27.eq_1, wpx_of k5_28.eq_1, wpx_of k5_29.eq_1, wpx_of k5_30.eq_1, wpx_of k5_31.eq_1, wpx_of k5_32.eq_1, wpx_of k5_33.eq_1, wpx_of k5_34.eq_1, kA, kB, kK, Nat.add_assoc, go_sem])
  have hlA : acts.length ≤ 40 := by omega
  have hlB : more.length ≤ 40 := by omega
  have hlK : keep.length ≤ 20 := by omega
  refine ALoop.keep [9, 0, 1, 2, 7] ?_; simp only [List.map_cons, List.map_nil, go_sem]
  refine ALoop.acc (α := List RowM × Int) (fun k a => [(9, .int .i64 (k : Int))]) (fun k a => H ++ [rowsO a.1, memG H.length 4 true (.lit (.slice none 0 0)) ⟨a.1, false, a.2, 0, []⟩]) (fun k a => a.1.length = 4 ∧ (∀ r ∈ a.1, r.ok) ∧ Half a.1 ∧ 0 ≤ a.2 ∧ a.2 ≤ k) acts.length ?_ (a0 := (List.replicate 4 row0, 0))
    ⟨rfl, fun r hr => by rw [List.eq_of_mem_replicate hr]; exact ⟨rfl, rfl⟩, fun i hi _ => by
      have hi : i < 4 := hi
      rcases (show i = 0 ∨ i = 1 ∨ i = 2 ∨ i = 3 by omega) with rfl | rfl | rfl | rfl <;> rfl, by simp, by simp⟩
  intro k a hk I next
  obtain ⟨rows, c⟩ := a
  obtain ⟨I1, I2, I3, I4, I5⟩ := I
  simp only at I1 I2 I3 I4 I5 next ⊢
  refine ALoop.unfold ?_
  have hw := wrap_succ (k := k) (by omega)
  by_cases hks : k < acts.length
  · have hg := acts3_get hks
    generalize acts.getD k (0, 0, 0, 0, .top) = act at hg
    obtain ⟨op, at_, old, v, kp⟩ := act
    simp only at hg
    obtain ⟨rows', c', e, g1, g2, g3, g4, g5⟩ := storeM_mk (rows := rows) (c := c) (at_ := at_) (v := v) I2
    have hh : Half rows' := fun i hi ho => by rw [g3] at hi; rw [(g5 i hi).2 ho]; rw [(g5 i hi).2 ho] at ho; exact I3 i hi ho
    simp only [mk] at e
    (try simp only [wpx_of k5_0.eq_1, wpx_of k5_1.eq_1, wpx_of k5_2.eq_1, wpx_of k5_3.eq_1, wpx_of k5_5.eq_1, wpx_of k5_6.eq_1, wpx_of k5_8.eq_1, wpx_of k5_9.eq_1, wpx_of k5_11.eq_1, wpx_of k5_12.eq_1, wpx_of k5_14.eq_1, wpx_of k5_15.eq_1, wpx_of k5_17.eq_1, wpx_of k5_18.eq_1, wpx_of k5_19.eq_1, wpx_of k5_21.eq_1, wpx_of k5_22.eq_1, wpx_of k5_23.eq_1, wpx_of k5_24.eq_1, wpx_of k5_25.eq_1, wpx_of k5_26.eq_1, wpx_of k5_27.eq_1, wpx_of k5_28.eq_1, wpx_of k5_29.eq_1, wpx_of k5_30.eq_1, wpx_of k5_31.eq_1, wpx_of k5_32.eq_1, wpx_of k5_33.eq_1, wpx_of k5_34.eq_1, kA, hg, hw, hks, List.length_map, e, memH_at, wpx_of b5_4.eq_1, nlt_iff, n0_le, Nat.add_assoc, List.cons_append, List.nil_append, go_sem]); repeat' ((first
    | refine And.intro (Or.inr rfl) ?_
    | ((first | refine cB ?_ ?_ | refine gT ?_ ?_ | refine gF ?_ ?_ | refine dT ?_ ?_ | refine dF ?_ ?_) <;> intro hc)
    | refine nvmG_Store_spec (hm rows false c _ I1 I2 I4 (by omega)) (by simp only; omega) ?_) <;> try simp only [*, wpx_of k5_0.eq_1, wpx_of k5_1.eq_1, wpx_of k5_2.eq_1, wpx_of k5_3.eq_1, wpx_of k5_5.eq_1, wpx_of k5_6.eq_1, wpx_of k5_8.eq_1, wpx_of k5_9.eq_1, wpx_of k5_11.eq_1, wpx_of k5_12.eq_1, wpx_of k5_14.eq_1, wpx_of k5_15.eq_1, wpx_of k5_17.eq_1, wpx_of k5_18.eq_1, wpx_of k5_19.eq_1, wpx_of k5_21.eq_1, wpx_of k5_22.eq_1, wpx_of k5_23.eq_1, wpx_of k5_24.eq_1, wpx_of k5_25.eq_1, wpx_of k5_26.eq_1, wpx_of k5_27.eq_1, wpx_of k5_28.eq_1, wpx_of k5_29.eq_1, wpx_of k5_30.eq_1, wpx_of k5_31.eq_1, wpx_of k5_32.eq_1, wpx_of k5_33.eq_1, wpx_of k5_34.eq_1, kA, hg, hw, hks, List.length_map, e, memH_at, wpx_of b5_4.eq_1, nlt_iff, n0_le, Nat.add_assoc, List.cons_append, List.nil_append, go_sem])
    (refine ALoop.keep [9, 0, 1, 2, 7] ?_; simp only [List.map_cons, List.map_nil, go_sem]; refine next (rows', c') hks ⟨by simp only; omega, g4, hh, by simp only; omega, by simp only; omega⟩)
  · clear next
    (try simp only [wpx_of k5_0.eq_1, wpx_of k5_1.eq_1, wpx_of k5_2.eq_1, wpx_of k5_3.eq_1, wpx_of k5_5.eq_1, wpx_of k5_6.eq_1, wpx_of k5_8.eq_1, wpx_of k5_9.eq_1, wpx_of k5_11.eq_1, wpx_of k5_12.eq_1, wpx_of k5_14.eq_1, wpx_of k5_15.eq_1, wpx_of k5_17.eq_1, wpx_of k5_18.eq_1, wpx_of k5_19.eq_1, wpx_of k5_21.eq_1, wpx_of k5_22.eq_1, wpx_of k5_23.eq_1, wpx_of k5_24.eq_1, wpx_of k5_25.eq_1, wpx_of k5_26.eq_1, wpx_of k5_27.eq_1, wpx_of k5_28.eq_1, wpx_of k5_29.eq_1, wpx_of k5_30.eq_1, wpx_of k5_31.eq_1, wpx_of k5_32.eq_1, wpx_of k5_33.eq_1, wpx_of k5_34.eq_1, hw, hks, List.length_map, wpx_of b5_4.eq_1, nlt_iff, n0_le, go_sem]); repeat' ((first
    | refine And.intro (Or.inr rfl) ?_
    | ((first | refine cB ?_ ?_ | refine gT ?_ ?_ | refine gF ?_ ?_ | refine dT ?_ ?_ | refine dF ?_ ?_) <;> intro hc)) <;> try simp only [*, wpx_of k5_0.eq_1, wpx_of k5_1.eq_1, wpx_of k5_2.eq_1, wpx_of k5_3.eq_1, wpx_of k5_5.eq_1, wpx_of k5_6.eq_1, wpx_of k5_8.eq_1, wpx_of k5_9.eq_1, wpx_of k5_11.eq_1, wpx_of k5_12.eq_1, wpx_of k5_14.eq_1, wpx_of k5_15.eq_1, wpx_of k5_17.eq_1, wpx_of k5_18.eq_1, wpx_of k5_19.eq_1, wpx_of k5_21.eq_1, wpx_of k5_22.eq_1, wpx_of k5_23.eq_1, wpx_of k5_24.eq_1, wpx_of k5_25.eq_1, wpx_of k5_26.eq_1, wpx_of k5_27.eq_1, wpx_of k5_28.eq_1, wpx_of k5_29.eq_1, wpx_of k5_30.eq_1, wpx_of k5_31.eq_1, wpx_of k5_32.eq_1, wpx_of k5_33.eq_1, wpx_of k5_34.eq_1, hw, hks, List.length_map, wpx_of b5_4.eq_1, nlt_iff, n0_le, go_sem])
    have hk : k = acts.length := by omega
    subst hk
    refine ALoop.keep [10, 1, 2, 7] ?_; simp only [List.map_cons, List.map_nil, go_sem]
    refine ALoop.heap (H' := H ++ [rowsO (flushR rows 0), memG H.length 4 true (.lit (.slice none 0 0)) ⟨flushR rows 0, false, c + ((0 : Nat) : Int), 0, []⟩]) (by unfold flushR; rw [turnedR_zero]; simp) ?_
    refine ALoop.acc (α := Unit) (fun k a => [(10, .int .i64 (k : Int))]) (fun k a => H ++ [rowsO (flushR rows k), memG H.length 4 true (.lit (.slice none 0 0)) ⟨flushR rows k, false, c + (k : Int), 0, []⟩]) (fun k a => True) 4 ?_ (a0 := ()) trivial
    intro k _ hk _ next
    refine ALoop.unfold ?_
    have hw := wrap_succ (k := k) (by omega)
    by_cases hk4 : k < 4
    · have hk4' : ((k : Int) < 4) = True := eq_true (by omega)
      have e := flushM_mk (rows := flushR rows k) (c := c + k) (k := k) (by unfold flushR; rw [turnedR_len]; omega)
      have e2 : (flushR rows k).set k (rowFlush (row (flushR rows k) k)) = flushR rows (k + 1) := (turnedR_succ (by omega)).symm
      rw [e2] at e
      simp only [mk] at e
      (try simp only [wpx_of k5_0.eq_1, wpx_of k5_1.eq_1, wpx_of k5_2.eq_1, wpx_of k5_3.eq_1, wpx_of k5_5.eq_1, wpx_of k5_6.eq_1, wpx_of k5_8.eq_1, wpx_of k5_9.eq_1, wpx_of k5_11.eq_1, wpx_of k5_12.eq_1, wpx_of k5_14.eq_1, wpx_of k5_15.eq_1, wpx_of k5_17.eq_1, wpx_of k5_18.eq_1, wpx_of k5_19.eq_1, wpx_of k5_21.eq_1, wpx_of k5_22.eq_1, wpx_of k5_23.eq_1, wpx_of k5_24.eq_1, wpx_of k5_25.eq_1, wpx_of k5_26.eq_1, wpx_of k5_27.eq_1, wpx_of k5_28.eq_1, wpx_of k5_29.eq_1, wpx_of k5_30.eq_1, wpx_of k5_31.eq_1, wpx_of k5_32.eq_1, wpx_of k5_33.eq_1, wpx_of k5_34.eq_1, hw, hk4', e, memH_at, wpx_of b5_7.eq_1, nlt_iff, n0_le, Nat.add_assoc, List.cons_append, List.nil_append, go_sem]); repeat' ((first
    | refine And.intro (Or.inr rfl) ?_
    | ((first | refine cB ?_ ?_ | refine gT ?_ ?_ | refine gF ?_ ?_ | refine dT ?_ ?_ | refine dF ?_ ?_) <;> intro hc)
    | refine nvmG_Flush_spec (hm (flushR rows k) false (c + k) _ (by unfold flushR; rw [turnedR_len]; exact I1) (turnedR_ok (fun i r h => flush_ok h) I2 k) (by omega) (by omega)) (by simp only; omega) ?_) <;> try simp only [*, wpx_of k5_0.eq_1, wpx_of k5_1.eq_1, wpx_of k5_2.eq_1, wpx_of k5_3.eq_1, wpx_of k5_5.eq_1, wpx_of k5_6.eq_1, wpx_of k5_8.eq_1, wpx_of k5_9.eq_1, wpx_of k5_11.eq_1, wpx_of k5_12.eq_1, wpx_of k5_14.eq_1, wpx_of k5_15.eq_1, wpx_of k5_17.eq_1, wpx_of k5_18.eq_1, wpx_of k5_19.eq_1, wpx_of k5_21.eq_1, wpx_of k5_22.eq_1, wpx_of k5_23.eq_1, wpx_of k5_24.eq_1, wpx_of k5_25.eq_1, wpx_of k5_26.eq_1, wpx_of k5_27.eq_1, wpx_of k5_28.eq_1, wpx_of k5_29.eq_1, wpx_of k5_30.eq_1, wpx_of k5_31.eq_1, wpx_of k5_32.eq_1, wpx_of k5_33.eq_1, wpx_of k5_34.eq_1, hw, hk4', e, memH_at, wpx_of b5_7.eq_1, nlt_iff, n0_le, Nat.add_assoc, List.cons_append, List.nil_append, go_sem])
      refine ALoop.heap (H' := H ++ [rowsO (flushR rows (k + 1)), memG H.length 4 true (.lit (.slice none 0 0)) ⟨flushR rows (k + 1), false, c + ((k + 1 : Nat) : Int), 0, []⟩]) (by rw [show c + (k : Int) + 1 = c + ((k + 1 : Nat) : Int) by omega]) ?_
      (refine ALoop.keep [10, 1, 2, 7] ?_; simp only [List.map_cons, List.map_nil, go_sem]; refine next () hk4 trivial)
    · have hk : k = 4 := by omega
      subst hk
      clear next hw hk
      have okF : ∀ r ∈ flushR rows 4, r.ok := turnedR_ok (fun i r h => flush_ok h) I2 4
      have lenF : (flushR rows 4).length = 4 := by unfold flushR; rw [turnedR_len]; exact I1
      have calm : CalmR (fenceR (flushR rows 4)) := by have := calm_fence I3; rwa [I1] at this
      have okC : ∀ r ∈ fenceR (flushR rows 4), r.ok := turnedR_ok (fun i r h => fence_ok h) okF _
      have lenC : (fenceR (flushR rows 4)).length = 4 := by rw [fenceR_len]; exact lenF
      have outC := outM_calm calm
      have e := fenceM_mk (rows := flushR rows 4) (c := c + (4 : Nat))
      simp only [mk] at e
      have c0 : 0 ≤ c + ((4 : Nat) : Int) := by omega
      have c1 : c + ((4 : Nat) : Int) ≤ 900 := by omega
      generalize c + ((4 : Nat) : Int) = c at *
      generalize hR1 : fenceR (flushR rows 4) = R1 at *
      have hR1' : Hid (fenceR (flushR rows 4) = R1) := hR1
      clear hR1
      (try simp only [wpx_of k5_0.eq_1, wpx_of k5_1.eq_1, wpx_of k5_2.eq_1, wpx_of k5_3.eq_1, wpx_of k5_5.eq_1, wpx_of k5_6.eq_1, wpx_of k5_8.eq_1, wpx_of k5_9.eq_1, wpx_of k5_11.eq_1, wpx_of k5_12.eq_1, wpx_of k5_14.eq_1, wpx_of k5_15.eq_1, wpx_of k5_17.eq_1, wpx_of k5_18.eq_1, wpx_of k5_19.eq_1, wpx_of k5_21.eq_1, wpx_of k5_22.eq_1, wpx_of k5_23.eq_1, wpx_of k5_24.eq_1, wpx_of k5_25.eq_1, wpx_of k5_26.eq_1, wpx_of k5_27.eq_1, wpx_of k5_28.eq_1, wpx_of k5_29.eq_1, wpx_of k5_30.eq_1, wpx_of k5_31.eq_1, wpx_of k5_32.eq_1, wpx_of k5_33.eq_1, wpx_of k5_34.eq_1, e, memH_at, outC, wpx_of b5_7.eq_1, nlt_iff, n0_le, Nat.add_assoc, List.cons_append, List.nil_append, go_sem]); repeat' ((first
    | refine And.intro (Or.inr rfl) ?_
    | ((first | refine cB ?_ ?_ | refine gT ?_ ?_ | refine gF ?_ ?_ | refine dT ?_ ?_ | refine dF ?_ ?_) <;> intro hc)
    | refine nvmG_Fence_spec (hm (flushR rows 4) false c _ lenF okF c0 (by omega)) (by simp only; omega) ?_
    | refine nvmG_Out_spec (hm R1 false (c + 1) _ lenC okC (by omega) (by omega)) ?_
    | refine nvmG_Words_spec (hm R1 false (c + 1) _ lenC okC (by omega) (by omega)) (by decide) ?_) <;> try simp only [*, wpx_of k5_0.eq_1, wpx_of k5_1.eq_1, wpx_of k5_2.eq_1, wpx_of k5_3.eq_1, wpx_of k5_5.eq_1, wpx_of k5_6.eq_1, wpx_of k5_8.eq_1, wpx_of k5_9.eq_1, wpx_of k5_11.eq_1, wpx_of k5_12.eq_1, wpx_of k5_14.eq_1, wpx_of k5_15.eq_1, wpx_of k5_17.eq_1, wpx_of k5_18.eq_1, wpx_of k5_19.eq_1, wpx_of k5_21.eq_1, wpx_of k5_22.eq_1, wpx_of k5_23.eq_1, wpx_of k5_24.eq_1, wpx_of k5_25.eq_1, wpx_of k5_26.eq_1, wpx_of k5_27.eq_1, wpx_of k5_28.eq_1, wpx_of k5_29.eq_1, wpx_of k5_30.eq_1, wpx_of k5_31.eq_1, wpx_of k5_32.eq_1, wpx_of k5_33.eq_1, wpx_of k5_34.eq_1, e, memH_at, outC, wpx_of b5_7.eq_1, nlt_iff, n0_le, Nat.add_assoc, List.cons_append, List.nil_append, go_sem])
      clear e outC
      refine ALoop.keep [12, 1, 2, 7, 11] ?_; simp only [List.map_cons, List.map_nil, go_sem]
      have hl1 : (wordsM R1).length = 32 := by rw [wordsM_len okC, lenC]
      simp only [hl1]
      refine ALoop.acc (α := List RowM × Int) (fun k a => [(12, .int .i64 (k : Int))]) (fun k a => H ++ [rowsO a.1, memG H.length 4 true (.lit (.slice none 0 0)) ⟨a.1, false, a.2, 0, []⟩, .arr 1 [] false, .arr 1 (words (wordsM R1)) false])
        (fun k a => a.1.length = 4 ∧ (∀ r ∈ a.1, r.ok) ∧ (∀ i, i < 4 → (row a.1 i).la = (row R1 i).la ∧ ((row a.1 i).out = false → row a.1 i = row R1 i)) ∧ 0 ≤ a.2 ∧ a.2 ≤ 901 + (k : Int)) more.length ?_ (a0 := (R1, c + 1))
        ⟨lenC, okC, fun i hi => ⟨rfl, fun _ => rfl⟩, by simp only; omega, by simp only; omega⟩
      intro k a hk J next
      obtain ⟨R2, d⟩ := a
      obtain ⟨J1, J2, J3, J4, J5⟩ := J
      simp only at J1 J2 J3 J4 J5 next ⊢
      refine ALoop.unfold ?_
      have hw := wrap_succ (k := k) (by omega)
      by_cases hks : k < more.length
      · have hg := acts3_get hks
        generalize more.getD k (0, 0, 0, 0, .top) = act at hg
        obtain ⟨op, at_, old, v, kp⟩ := act
        simp only at hg
        obtain ⟨rows', c', e, g1, g2, g3, g4, g5⟩ := storeM_mk (rows := R2) (c := d) (at_ := at_) (v := v) J2
        have hh : ∀ i, i < 4 → (row rows' i).la = (row R1 i).la ∧ ((row rows' i).out = false → row rows' i = row R1 i) := fun i hi => by
          have h5 := g5 i (by rw [J1]; exact hi)
          refine ⟨by rw [h5.1, (J3 i hi).1], fun ho => ?_⟩
          have := h5.2 ho
          rw [this] at ho ⊢
          exact (J3 i hi).2 ho
        simp only [mk] at e
        (try simp only [wpx_of k5_0.eq_1, wpx_of k5_1.eq_1, wpx_of k5_2.eq_1, wpx_of k5_3.eq_1, wpx_of k5_5.eq_1, wpx_of k5_6.eq_1, wpx_of k5_8.eq_1, wpx_of k5_9.eq_1, wpx_of k5_11.eq_1, wpx_of k5_12.eq_1, wpx_of k5_14.eq_1, wpx_of k5_15.eq_1, wpx_of k5_17.eq_1, wpx_of k5_18.eq_1, wpx_of k5_19.eq_1, wpx_of k5_21.eq_1, wpx_of k5_22.eq_1, wpx_of k5_23.eq_1, wpx_of k5_24.eq_1, wpx_of k5_25.eq_1, wpx_of k5_26.eq_1, wpx_of k5_27.eq_1, wpx_of k5_28.eq_1, wpx_of k5_29.eq_1, wpx_of k5_30.eq_1, wpx_of k5_31.eq_1, wpx_of k5_32.eq_1, wpx_of k5_33.eq_1, wpx_of k5_34.eq_1, kB, hg, hw, hks, List.length_map, e, memH_at, wpx_of b5_10.eq_1, nlt_iff, n0_le, Nat.add_assoc, List.cons_append, List.nil_append, go_sem]); repeat' ((first
    | refine And.intro (Or.inr rfl) ?_
    | ((first | refine cB ?_ ?_ | refine gT ?_ ?_ | refine gF ?_ ?_ | refine dT ?_ ?_ | refine dF ?_ ?_) <;> intro hc)
    | refine nvmG_Store_spec (hm R2 false d _ J1 J2 J4 (by omega)) (by simp only; omega) ?_) <;> try simp only [*, wpx_of k5_0.eq_1, wpx_of k5_1.eq_1, wpx_of k5_2.eq_1, wpx_of k5_3.eq_1, wpx_of k5_5.eq_1, wpx_of k5_6.eq_1, wpx_of k5_8.eq_1, wpx_of k5_9.eq_1, wpx_of k5_11.eq_1, wpx_of k5_12.eq_1, wpx_of k5_14.eq_1, wpx_of k5_15.eq_1, wpx_of k5_17.eq_1, wpx_of k5_18.eq_1, wpx_of k5_19.eq_1, wpx_of k5_21.eq_1, wpx_of k5_22.eq_1, wpx_of k5_23.eq_1, wpx_of k5_24.eq_1, wpx_of k5_25.eq_1, wpx_of k5_26.eq_1, wpx_of k5_27.eq_1, wpx_of k5_28.eq_1, wpx_of k5_29.eq_1, wpx_of k5_30.eq_1, wpx_of k5_31.eq_1, wpx_of k5_32.eq_1, wpx_of k5_33.eq_1, wpx_of k5_34.eq_1, kB, hg, hw, hks, List.length_map, e, memH_at, wpx_of b5_10.eq_1, nlt_iff, n0_le, Nat.add_assoc, List.cons_append, List.nil_append, go_sem])
        (refine ALoop.keep [12, 1, 2, 7, 11] ?_; simp only [List.map_cons, List.map_nil, go_sem]; refine next (rows', c') hks ⟨by simp only; omega, g4, hh, by simp only; omega, by simp only; omega⟩)
      · clear next
        have e := crashM_mk (rows := R2) (c := d) (l := keep)
        simp only [mk] at e
        have okN : ∀ r ∈ fallR keep R2, r.ok := turnedR_ok (fun i r h => fall_ok h _) J2 _
        have lenN : (fallR keep R2).length = 4 := by unfold fallR; rw [turnedR_len]; exact J1
        have hl2 : (wordsM R2).length = 32 := by rw [wordsM_len J2, J1]
        have hl3 : (wordsM (fallR keep R2)).length = 32 := by rw [wordsM_len okN, lenN]
        have kept : ∀ (i k : Nat), i < 4 → 8 * i ≤ k → k < 8 * i + 8 → hasI keep (i : Int) = true → (wordsM (fallR keep R2)).getD k 0 = (wordsM R2).getD k 0 := fun i k hi h0 h1 hb =>
          wordsM_eq okN J2 (by rw [lenN]; exact hi) (by rw [J1]; exact hi) h0 h1 (by rw [fall_rows (by rw [J1]; exact hi), hb]; unfold rowFall; simp only [if_true]; unfold rowEvict; split <;> rfl)
        have lost : ∀ (i k : Nat), i < 4 → 8 * i ≤ k → k < 8 * i + 8 → hasI keep (i : Int) = false → (wordsM (fallR keep R2)).getD k 0 = (wordsM R1).getD k 0 := fun i k hi h0 h1 hb =>
          wordsM_eq okN okC (by rw [lenN]; exact hi) (by rw [lenC]; exact hi) h0 h1 (by
            rw [fall_rows (by rw [J1]; exact hi), hb]; unfold rowFall
            have hc := calm i (by rw [lenC]; exact hi)
            have hj := J3 i hi
            simp only [Bool.false_eq_true, if_false]
            split
            · rw [← hc.2, ← hj.1]
            · rename_i ho
              rw [hj.2 (by simpa using ho)])
        generalize hR3 : fallR keep R2 = R3 at *
        (try simp only [wpx_of k5_0.eq_1, wpx_of k5_1.eq_1, wpx_of k5_2.eq_1, wpx_of k5_3.eq_1, wpx_of k5_5.eq_1, wpx_of k5_6.eq_1, wpx_of k5_8.eq_1, wpx_of k5_9.eq_1, wpx_of k5_11.eq_1, wpx_of k5_12.eq_1, wpx_of k5_14.eq_1, wpx_of k5_15.eq_1, wpx_of k5_17.eq_1, wpx_of k5_18.eq_1, wpx_of k5_19.eq_1, wpx_of k5_21.eq_1, wpx_of k5_22.eq_1, wpx_of k5_23.eq_1, wpx_of k5_24.eq_1, wpx_of k5_25.eq_1, wpx_of k5_26.eq_1, wpx_of k5_27.eq_1, wpx_of k5_28.eq_1, wpx_of k5_29.eq_1, wpx_of k5_30.eq_1, wpx_of k5_31.eq_1, wpx_of k5_32.eq_1, wpx_of k5_33.eq_1, wpx_of k5_34.eq_1, kK, hw, hks, e, List.length_map, memH_at, hl1, hl2, hl3, wpx_of b5_10.eq_1, nlt_iff, n0_le, Nat.add_assoc, List.cons_append, List.nil_append, go_sem]); repeat' ((first
    | refine And.intro (Or.inr rfl) ?_
    | ((first | refine cB ?_ ?_ | refine gT ?_ ?_ | refine gF ?_ ?_ | refine dT ?_ ?_ | refine dF ?_ ?_) <;> intro hc)
    | refine nvmG_Words_spec (hm R2 false d _ J1 J2 J4 (by omega)) (by decide) ?_
    | refine nvmG_Crash_spec (hm R2 false d _ J1 J2 J4 (by omega)) (.inr ⟨_, _, _, rfl, kK _⟩) (by omega) ?_
    | refine nvmG_Words_spec (hm R3 true d _ lenN okN J4 (by omega)) (by decide) ?_) <;> try simp only [*, wpx_of k5_0.eq_1, wpx_of k5_1.eq_1, wpx_of k5_2.eq_1, wpx_of k5_3.eq_1, wpx_of k5_5.eq_1, wpx_of k5_6.eq_1, wpx_of k5_8.eq_1, wpx_of k5_9.eq_1, wpx_of k5_11.eq_1, wpx_of k5_12.eq_1, wpx_of k5_14.eq_1, wpx_of k5_15.eq_1, wpx_of k5_17.eq_1, wpx_of k5_18.eq_1, wpx_of k5_19.eq_1, wpx_of k5_21.eq_1, wpx_of k5_22.eq_1, wpx_of k5_23.eq_1, wpx_of k5_24.eq_1, wpx_of k5_25.eq_1, wpx_of k5_26.eq_1, wpx_of k5_27.eq_1, wpx_of k5_28.eq_1, wpx_of k5_29.eq_1, wpx_of k5_30.eq_1, wpx_of k5_31.eq_1, wpx_of k5_32.eq_1, wpx_of k5_33.eq_1, wpx_of k5_34.eq_1, kK, hw, hks, e, List.length_map, memH_at, hl1, hl2, hl3, wpx_of b5_10.eq_1, nlt_iff, n0_le, Nat.add_assoc, List.cons_append, List.nil_append, go_sem])
        clear hw hks e hR3
        generalize wordsM R1 = W1 at *
        generalize wordsM R2 = W2 at *
        generalize wordsM R3 = W3 at *
        refine ALoop.keep [15, 2, 11, 13, 14] ?_; simp only [List.map_cons, List.map_nil, go_sem]
        refine ALoop.cnt (fun _ => True) 4 trivial fun r hr _ next => ?_
        refine ALoop.unfold ?_
        have hw := wrap_succ (k := r) (by omega)
        by_cases hr4 : r < 4
        · have hr4' : ((r : Int) < 4) = True := eq_true (by omega)
          (try simp only [wpx_of k5_0.eq_1, wpx_of k5_1.eq_1, wpx_of k5_2.eq_1, wpx_of k5_3.eq_1, wpx_of k5_5.eq_1, wpx_of k5_6.eq_1, wpx_of k5_8.eq_1, wpx_of k5_9.eq_1, wpx_of k5_11.eq_1, wpx_of k5_12.eq_1, wpx_of k5_14.eq_1, wpx_of k5_15.eq_1, wpx_of k5_17.eq_1, wpx_of k5_18.eq_1, wpx_of k5_19.eq_1, wpx_of k5_21.eq_1, wpx_of k5_22.eq_1, wpx_of k5_23.eq_1, wpx_of k5_24.eq_1, wpx_of k5_25.eq_1, wpx_of k5_26.eq_1, wpx_of k5_27.eq_1, wpx_of k5_28.eq_1, wpx_of k5_29.eq_1, wpx_of k5_30.eq_1, wpx_of k5_31.eq_1, wpx_of k5_32.eq_1, wpx_of k5_33.eq_1, wpx_of k5_34.eq_1, hw, hr4', wpx_of b5_20.eq_1, nlt_iff, n0_le, go_sem]); repeat' ((first
    | refine And.intro (Or.inr rfl) ?_
    | ((first | refine cB ?_ ?_ | refine gT ?_ ?_ | refine gF ?_ ?_ | refine dT ?_ ?_ | refine dF ?_ ?_) <;> intro hc)) <;> try simp only [*, wpx_of k5_0.eq_1, wpx_of k5_1.eq_1, wpx_of k5_2.eq_1, wpx_of k5_3.eq_1, wpx_of k5_5.eq_1, wpx_of k5_6.eq_1, wpx_of k5_8.eq_1, wpx_of k5_9.eq_1, wpx_of k5_11.eq_1, wpx_of k5_12.eq_1, wpx_of k5_14.eq_1, wpx_of k5_15.eq_1, wpx_of k5_17.eq_1, wpx_of k5_18.eq_1, wpx_of k5_19.eq_1, wpx_of k5_21.eq_1, wpx_of k5_22.eq_1, wpx_of k5_23.eq_1, wpx_of k5_24.eq_1, wpx_of k5_25.eq_1, wpx_of k5_26.eq_1, wpx_of k5_27.eq_1, wpx_of k5_28.eq_1, wpx_of k5_29.eq_1, wpx_of k5_30.eq_1, wpx_of k5_31.eq_1, wpx_of k5_32.eq_1, wpx_of k5_33.eq_1, wpx_of k5_34.eq_1, hw, hr4', wpx_of b5_20.eq_1, nlt_iff, n0_le, go_sem])
          refine ALoop.keep [16, 17, 2, 11, 13, 14, 15] ?_; simp only [List.map_cons, List.map_nil, go_sem]
          refine ALoop.acc (α := Unit) (fun k _ => [(16, .bool (hasI (keep.take k) (r : Int))), (17, .int .i64 (k : Int))]) (fun k _ => _) (fun _ _ => True) keep.length ?_ (a0 := ()) trivial
          intro i _ hi _ next2
          refine ALoop.unfold ?_
          have hw2 := wrap_succ (k := i) (by omega)
          by_cases hik : i < keep.length
          · have hg := ints_get hik
            have ht := hasI_take (l := keep) (v := (r : Int)) hik
            cases hb : hasI (keep.take i) (r : Int) with
            | true =>
              rw [hb, Bool.true_or] at ht
              rw [ht] at next2
              clear ht
              (try simp only [wpx_of k5_0.eq_1, wpx_of k5_1.eq_1, wpx_of k5_2.eq_1, wpx_of k5_3.eq_1, wpx_of k5_5.eq_1, wpx_of k5_6.eq_1, wpx_of k5_8.eq_1, wpx_of k5_9.eq_1, wpx_of k5_11.eq_1, wpx_of k5_12.eq_1, wpx_of k5_14.eq_1, wpx_of k5_15.eq_1, wpx_of k5_17.eq_1, wpx_of k5_18.eq_1, wpx_of k5_19.eq_1, wpx_of k5_21.eq_1, wpx_of k5_22.eq_1, wpx_of k5_23.eq_1, wpx_of k5_24.eq_1, wpx_of k5_25.eq_1, wpx_of k5_26.eq_1, wpx_of k5_27.eq_1, wpx_of k5_28.eq_1, wpx_of k5_29.eq_1, wpx_of k5_30.eq_1, wpx_of k5_31.eq_1, wpx_of k5_32.eq_1, wpx_of k5_33.eq_1, wpx_of k5_34.eq_1, kK, hg, hw2, hik, wpx_of b5_13.eq_1, nlt_iff, n0_le, Nat.add_assoc, List.cons_append, List.nil_append, go_sem]); repeat' ((first
    | refine And.intro (Or.inr rfl) ?_
    | ((first | refine cB ?_ ?_ | refine gT ?_ ?_ | refine gF ?_ ?_ | refine dT ?_ ?_ | refine dF ?_ ?_) <;> intro hc)) <;> try simp only [*, wpx_of k5_0.eq_1, wpx_of k5_1.eq_1, wpx_of k5_2.eq_1, wpx_of k5_3.eq_1, wpx_of k5_5.eq_1, wpx_of k5_6.eq_1, wpx_of k5_8.eq_1, wpx_of k5_9.eq_1, wpx_of k5_11.eq_1, wpx_of k5_12.eq_1, wpx_of k5_14.eq_1, wpx_of k5_15.eq_1, wpx_of k5_17.eq_1, wpx_of k5_18.eq_1, wpx_of k5_19.eq_1, wpx_of k5_21.eq_1, wpx_of k5_22.eq_1, wpx_of k5_23.eq_1, wpx_of k5_24.eq_1, wpx_of k5_25.eq_1, wpx_of k5_26.eq_1, wpx_of k5_27.eq_1, wpx_of k5_28.eq_1, wpx_of k5_29.eq_1, wpx_of k5_30.eq_1, wpx_of k5_31.eq_1, wpx_of k5_32.eq_1, wpx_of k5_33.eq_1, wpx_of k5_34.eq_1, kK, hg, hw2, hik, wpx_of b5_13.eq_1, nlt_iff, n0_le, Nat.add_assoc, List.cons_append, List.nil_append, go_sem])
              (refine ALoop.keep [16, 17, 2, 11, 13, 14, 15] ?_; simp only [List.map_cons, List.map_nil, go_sem]; refine next2 () hik trivial)
            | false =>
              rw [hb, Bool.false_or] at ht
              rw [ht] at next2
              clear ht
              (try simp only [wpx_of k5_0.eq_1, wpx_of k5_1.eq_1, wpx_of k5_2.eq_1, wpx_of k5_3.eq_1, wpx_of k5_5.eq_1, wpx_of k5_6.eq_1, wpx_of k5_8.eq_1, wpx_of k5_9.eq_1, wpx_of k5_11.eq_1, wpx_of k5_12.eq_1, wpx_of k5_14.eq_1, wpx_of k5_15.eq_1, wpx_of k5_17.eq_1, wpx_of k5_18.eq_1, wpx_of k5_19.eq_1, wpx_of k5_21.eq_1, wpx_of k5_22.eq_1, wpx_of k5_23.eq_1, wpx_of k5_24.eq_1, wpx_of k5_25.eq_1, wpx_of k5_26.eq_1, wpx_of k5_27.eq_1, wpx_of k5_28.eq_1, wpx_of k5_29.eq_1, wpx_of k5_30.eq_1, wpx_of k5_31.eq_1, wpx_of k5_32.eq_1, wpx_of k5_33.eq_1, wpx_of k5_34.eq_1, kK, hg, hw2, hik, wpx_of b5_13.eq_1, nlt_iff, n0_le, Nat.add_assoc, List.cons_append, List.nil_append, go_sem]); repeat' ((first
    | refine And.intro (Or.inr rfl) ?_
    | ((first | refine cB ?_ ?_ | refine gT ?_ ?_ | refine gF ?_ ?_ | refine dT ?_ ?_ | refine dF ?_ ?_) <;> intro hc)) <;> try simp only [*, wpx_of k5_0.eq_1, wpx_of k5_1.eq_1, wpx_of k5_2.eq_1, wpx_of k5_3.eq_1, wpx_of k5_5.eq_1, wpx_of k5_6.eq_1, wpx_of k5_8.eq_1, wpx_of k5_9.eq_1, wpx_of k5_11.eq_1, wpx_of k5_12.eq_1, wpx_of k5_14.eq_1, wpx_of k5_15.eq_1, wpx_of k5_17.eq_1, wpx_of k5_18.eq_1, wpx_of k5_19.eq_1, wpx_of k5_21.eq_1, wpx_of k5_22.eq_1, wpx_of k5_23.eq_1, wpx_of k5_24.eq_1, wpx_of k5_25.eq_1, wpx_of k5_26.eq_1, wpx_of k5_27.eq_1, wpx_of k5_28.eq_1, wpx_of k5_29.eq_1, wpx_of k5_30.eq_1, wpx_of k5_31.eq_1, wpx_of k5_32.eq_1, wpx_of k5_33.eq_1, wpx_of k5_34.eq_1, kK, hg, hw2, hik, wpx_of b5_13.eq_1, nlt_iff, n0_le, Nat.add_assoc, List.cons_append, List.nil_append, go_sem])
              (refine ALoop.keep [16, 17, 2, 11, 13, 14, 15] ?_; simp only [List.map_cons, List.map_nil, go_sem]; refine next2 () hik trivial)
          · have hi : i = keep.length := by omega
            subst hi
            rw [List.take_length]
            have h8r : IntKind.wrap .i64 (8 * (r : Int)) = ((8 * r : Nat) : Int) := by rw [w64' (by omega) (by omega)]; omega
            (try simp only [wpx_of k5_0.eq_1, wpx_of k5_1.eq_1, wpx_of k5_2.eq_1, wpx_of k5_3.eq_1, wpx_of k5_5.eq_1, wpx_of k5_6.eq_1, wpx_of k5_8.eq_1, wpx_of k5_9.eq_1, wpx_of k5_11.eq_1, wpx_of k5_12.eq_1, wpx_of k5_14.eq_1, wpx_of k5_15.eq_1, wpx_of k5_17.eq_1, wpx_of k5_18.eq_1, wpx_of k5_19.eq_1, wpx_of k5_21.eq_1, wpx_of k5_22.eq_1, wpx_of k5_23.eq_1, wpx_of k5_24.eq_1, wpx_of k5_25.eq_1, wpx_of k5_26.eq_1, wpx_of k5_27.eq_1, wpx_of k5_28.eq_1, wpx_of k5_29.eq_1, wpx_of k5_30.eq_1, wpx_of k5_31.eq_1, wpx_of k5_32.eq_1, wpx_of k5_33.eq_1, wpx_of k5_34.eq_1, hw2, hik, h8r, wpx_of b5_13.eq_1, nlt_iff, n0_le, Nat.add_assoc, List.cons_append, List.nil_append, go_sem]); repeat' ((first
    | refine And.intro (Or.inr rfl) ?_
    | ((first | refine cB ?_ ?_ | refine gT ?_ ?_ | refine gF ?_ ?_ | refine dT ?_ ?_ | refine dF ?_ ?_) <;> intro hc)) <;> try simp only [*, wpx_of k5_0.eq_1, wpx_of k5_1.eq_1, wpx_of k5_2.eq_1, wpx_of k5_3.eq_1, wpx_of k5_5.eq_1, wpx_of k5_6.eq_1, wpx_of k5_8.eq_1, wpx_of k5_9.eq_1, wpx_of k5_11.eq_1, wpx_of k5_12.eq_1, wpx_of k5_14.eq_1, wpx_of k5_15.eq_1, wpx_of k5_17.eq_1, wpx_of k5_18.eq_1, wpx_of k5_19.eq_1, wpx_of k5_21.eq_1, wpx_of k5_22.eq_1, wpx_of k5_23.eq_1, wpx_of k5_24.eq_1, wpx_of k5_25.eq_1, wpx_of k5_26.eq_1, wpx_of k5_27.eq_1, wpx_of k5_28.eq_1, wpx_of k5_29.eq_1, wpx_of k5_30.eq_1, wpx_of k5_31.eq_1, wpx_of k5_32.eq_1, wpx_of k5_33.eq_1, wpx_of k5_34.eq_1, hw2, hik, h8r, wpx_of b5_13.eq_1, nlt_iff, n0_le, Nat.add_assoc, List.cons_append, List.nil_append, go_sem])
            refine ALoop.keep [18, 2, 11, 13, 14, 15, 16] ?_; simp only [List.map_cons, List.map_nil, go_sem]
            refine ALoop.heap rfl ?_
            refine ALoop.acc (α := Unit) (fun k _ => [(18, .int .i64 ((8 * r + k : Nat) : Int))]) (fun k _ => _) (fun _ _ => True) 8 ?_ (a0 := ()) trivial
            intro j _ hj _ next3
            refine ALoop.unfold ?_
            have hw3 : IntKind.wrap .i64 (((8 * r + j : Nat) : Int) + 1) = ((8 * r + (j + 1) : Nat) : Int) := wrap_succ (k := 8 * r + j) (by omega)
            have h8s : IntKind.wrap .i64 (((8 * r : Nat) : Int) + 8) = ((8 * r + 8 : Nat) : Int) := by rw [w64' (by omega) (by omega)]; omega
            by_cases hj8 : j < 8
            · have hlt : (8 * r + j < 8 * r + 8) = True := eq_true (by omega)
              have g1 := words_get (l := W1) (k := 8 * r + j) (by omega)
              have g2 := words_get (l := W2) (k := 8 * r + j) (by omega)
              have g3 := words_get (l := W3) (k := 8 * r + j) (by omega)
              have g32 : (8 * r + j < 32) = True := eq_true (by omega)
              have g33 : (((8 * r + j : Nat) : Int) < 32) = True := eq_true (by omega)
              cases hb : hasI keep (r : Int) with
              | true =>
                have e := kept r (8 * r + j) hr4 (by omega) (by omega) hb
                rw [e] at g3
                clear e
                (try simp only [wpx_of k5_0.eq_1, wpx_of k5_1.eq_1, wpx_of k5_2.eq_1, wpx_of k5_3.eq_1, wpx_of k5_5.eq_1, wpx_of k5_6.eq_1, wpx_of k5_8.eq_1, wpx_of k5_9.eq_1, wpx_of k5_11.eq_1, wpx_of k5_12.eq_1, wpx_of k5_14.eq_1, wpx_of k5_15.eq_1, wpx_of k5_17.eq_1, wpx_of k5_18.eq_1, wpx_of k5_19.eq_1, wpx_of k5_21.eq_1, wpx_of k5_22.eq_1, wpx_of k5_23.eq_1, wpx_of k5_24.eq_1, wpx_of k5_25.eq_1, wpx_of k5_26.eq_1, wpx_of k5_27.eq_1, wpx_of k5_28.eq_1, wpx_of k5_29.eq_1, wpx_of k5_30.eq_1, wpx_of k5_31.eq_1, wpx_of k5_32.eq_1, wpx_of k5_33.eq_1, wpx_of k5_34.eq_1, g1, g2, g3, hl1, hl2, hl3, g32, g33, Int.toNat_natCast, hw3, h8r, h8s, hlt, wpx_of b5_16.eq_1, nlt_iff, n0_le, List.cons_append, List.nil_append, go_sem]); repeat' ((first
    | refine And.intro (Or.inr rfl) ?_
    | ((first | refine cB ?_ ?_ | refine gT ?_ ?_ | refine gF ?_ ?_ | refine dT ?_ ?_ | refine dF ?_ ?_) <;> intro hc)) <;> try simp only [*, wpx_of k5_0.eq_1, wpx_of k5_1.eq_1, wpx_of k5_2.eq_1, wpx_of k5_3.eq_1, wpx_of k5_5.eq_1, wpx_of k5_6.eq_1, wpx_of k5_8.eq_1, wpx_of k5_9.eq_1, wpx_of k5_11.eq_1, wpx_of k5_12.eq_1, wpx_of k5_14.eq_1, wpx_of k5_15.eq_1, wpx_of k5_17.eq_1, wpx_of k5_18.eq_1, wpx_of k5_19.eq_1, wpx_of k5_21.eq_1, wpx_of k5_22.eq_1, wpx_of k5_23.eq_1, wpx_of k5_24.eq_1, wpx_of k5_25.eq_1, wpx_of k5_26.eq_1, wpx_of k5_27.eq_1, wpx_of k5_28.eq_1, wpx_of k5_29.eq_1, wpx_of k5_30.eq_1, wpx_of k5_31.eq_1, wpx_of k5_32.eq_1, wpx_of k5_33.eq_1, wpx_of k5_34.eq_1, g1, g2, g3, hl1, hl2, hl3, g32, g33, Int.toNat_natCast, hw3, h8r, h8s, hlt, wpx_of b5_16.eq_1, nlt_iff, n0_le, List.cons_append, List.nil_append, go_sem])
                rw [hb] at next3
                (refine ALoop.keep [18, 2, 11, 13, 14, 15, 16] ?_; simp only [List.map_cons, List.map_nil, go_sem]; refine next3 () hj8 trivial)
              | false =>
                have e := lost r (8 * r + j) hr4 (by omega) (by omega) hb
                rw [e] at g3
                clear e
                (try simp only [wpx_of k5_0.eq_1, wpx_of k5_1.eq_1, wpx_of k5_2.eq_1, wpx_of k5_3.eq_1, wpx_of k5_5.eq_1, wpx_of k5_6.eq_1, wpx_of k5_8.eq_1, wpx_of k5_9.eq_1, wpx_of k5_11.eq_1, wpx_of k5_12.eq_1, wpx_of k5_14.eq_1, wpx_of k5_15.eq_1, wpx_of k5_17.eq_1, wpx_of k5_18.eq_1, wpx_of k5_19.eq_1, wpx_of k5_21.eq_1, wpx_of k5_22.eq_1, wpx_of k5_23.eq_1, wpx_of k5_24.eq_1, wpx_of k5_25.eq_1, wpx_of k5_26.eq_1, wpx_of k5_27.eq_1, wpx_of k5_28.eq_1, wpx_of k5_29.eq_1, wpx_of k5_30.eq_1, wpx_of k5_31.eq_1, wpx_of k5_32.eq_1, wpx_of k5_33.eq_1, wpx_of k5_34.eq_1, g1, g2, g3, hl1, hl2, hl3, g32, g33, Int.toNat_natCast, hw3, h8r, h8s, hlt, wpx_of b5_16.eq_1, nlt_iff, n0_le, List.cons_append, List.nil_append, go_sem]); repeat' ((first
    | refine And.intro (Or.inr rfl) ?_
    | ((first | refine cB ?_ ?_ | refine gT ?_ ?_ | refine gF ?_ ?_ | refine dT ?_ ?_ | refine dF ?_ ?_) <;> intro hc)) <;> try simp only [*, wpx_of k5_0.eq_1, wpx_of k5_1.eq_1, wpx_of k5_2.eq_1, wpx_of k5_3.eq_1, wpx_of k5_5.eq_1, wpx_of k5_6.eq_1, wpx_of k5_8.eq_1, wpx_of k5_9.eq_1, wpx_of k5_11.eq_1, wpx_of k5_12.eq_1, wpx_of k5_14.eq_1, wpx_of k5_15.eq_1, wpx_of k5_17.eq_1, wpx_of k5_18.eq_1, wpx_of k5_19.eq_1, wpx_of k5_21.eq_1, wpx_of k5_22.eq_1, wpx_of k5_23.eq_1, wpx_of k5_24.eq_1, wpx_of k5_25.eq_1, wpx_of k5_26.eq_1, wpx_of k5_27.eq_1, wpx_of k5_28.eq_1, wpx_of k5_29.eq_1, wpx_of k5_30.eq_1, wpx_of k5_31.eq_1, wpx_of k5_32.eq_1, wpx_of k5_33.eq_1, wpx_of k5_34.eq_1, g1, g2, g3, hl1, hl2, hl3, g32, g33, Int.toNat_natCast, hw3, h8r, h8s, hlt, wpx_of b5_16.eq_1, nlt_iff, n0_le, List.cons_append, List.nil_append, go_sem])
                rw [hb] at next3
                (refine ALoop.keep [18, 2, 11, 13, 14, 15, 16] ?_; simp only [List.map_cons, List.map_nil, go_sem]; refine next3 () hj8 trivial)
            · have hlt : (8 * r + j < 8 * r + 8) = False := eq_false (by omega)
              (try simp only [wpx_of k5_0.eq_1, wpx_of k5_1.eq_1, wpx_of k5_2.eq_1, wpx_of k5_3.eq_1, wpx_of k5_5.eq_1, wpx_of k5_6.eq_1, wpx_of k5_8.eq_1, wpx_of k5_9.eq_1, wpx_of k5_11.eq_1, wpx_of k5_12.eq_1, wpx_of k5_14.eq_1, wpx_of k5_15.eq_1, wpx_of k5_17.eq_1, wpx_of k5_18.eq_1, wpx_of k5_19.eq_1, wpx_of k5_21.eq_1, wpx_of k5_22.eq_1, wpx_of k5_23.eq_1, wpx_of k5_24.eq_1, wpx_of k5_25.eq_1, wpx_of k5_26.eq_1, wpx_of k5_27.eq_1, wpx_of k5_28.eq_1, wpx_of k5_29.eq_1, wpx_of k5_30.eq_1, wpx_of k5_31.eq_1, wpx_of k5_32.eq_1, wpx_of k5_33.eq_1, wpx_of k5_34.eq_1, hw, hw3, h8r, h8s, hlt, wpx_of b5_16.eq_1, nlt_iff, n0_le, List.cons_append, List.nil_append, go_sem]); repeat' ((first
    | refine And.intro (Or.inr rfl) ?_
    | ((first | refine cB ?_ ?_ | refine gT ?_ ?_ | refine gF ?_ ?_ | refine dT ?_ ?_ | refine dF ?_ ?_) <;> intro hc)) <;> try simp only [*, wpx_of k5_0.eq_1, wpx_of k5_1.eq_1, wpx_of k5_2.eq_1, wpx_of k5_3.eq_1, wpx_of k5_5.eq_1, wpx_of k5_6.eq_1, wpx_of k5_8.eq_1, wpx_of k5_9.eq_1, wpx_of k5_11.eq_1, wpx_of k5_12.eq_1, wpx_of k5_14.eq_1, wpx_of k5_15.eq_1, wpx_of k5_17.eq_1, wpx_of k5_18.eq_1, wpx_of k5_19.eq_1, wpx_of k5_21.eq_1, wpx_of k5_22.eq_1, wpx_of k5_23.eq_1, wpx_of k5_24.eq_1, wpx_of k5_25.eq_1, wpx_of k5_26.eq_1, wpx_of k5_27.eq_1, wpx_of k5_28.eq_1, wpx_of k5_29.eq_1, wpx_of k5_30.eq_1, wpx_of k5_31.eq_1, wpx_of k5_32.eq_1, wpx_of k5_33.eq_1, wpx_of k5_34.eq_1, hw, hw3, h8r, h8s, hlt, wpx_of b5_16.eq_1, nlt_iff, n0_le, List.cons_append, List.nil_append, go_sem])
              (refine ALoop.keep [15, 2, 11, 13, 14] ?_; simp only [List.map_cons, List.map_nil, go_sem]; refine next hr4 trivial)
        · have hr4' : ((r : Int) < 4) = False := eq_false (by omega)
          (try simp only [wpx_of k5_0.eq_1, wpx_of k5_1.eq_1, wpx_of k5_2.eq_1, wpx_of k5_3.eq_1, wpx_of k5_5.eq_1, wpx_of k5_6.eq_1, wpx_of k5_8.eq_1, wpx_of k5_9.eq_1, wpx_of k5_11.eq_1, wpx_of k5_12.eq_1, wpx_of k5_14.eq_1, wpx_of k5_15.eq_1, wpx_of k5_17.eq_1, wpx_of k5_18.eq_1, wpx_of k5_19.eq_1, wpx_of k5_21.eq_1, wpx_of k5_22.eq_1, wpx_of k5_23.eq_1, wpx_of k5_24.eq_1, wpx_of k5_25.eq_1, wpx_of k5_26.eq_1, wpx_of k5_27.eq_1, wpx_of k5_28.eq_1, wpx_of k5_29.eq_1, wpx_of k5_30.eq_1, wpx_of k5_31.eq_1, wpx_of k5_32.eq_1, wpx_of k5_33.eq_1, wpx_of k5_34.eq_1, hw, hr4', wpx_of b5_20.eq_1, nlt_iff, n0_le, go_sem]); repeat' ((first
    | refine And.intro (Or.inr rfl) ?_
    | ((first | refine cB ?_ ?_ | refine gT ?_ ?_ | refine gF ?_ ?_ | refine dT ?_ ?_ | refine dF ?_ ?_) <;> intro hc)) <;> try simp only [*, wpx_of k5_0.eq_1, wpx_of k5_1.eq_1, wpx_of k5_2.eq_1, wpx_of k5_3.eq_1, wpx_of k5_5.eq_1, wpx_of k5_6.eq_1, wpx_of k5_8.eq_1, wpx_of k5_9.eq_1, wpx_of k5_11.eq_1, wpx_of k5_12.eq_1, wpx_of k5_14.eq_1, wpx_of k5_15.eq_1, wpx_of k5_17.eq_1, wpx_of k5_18.eq_1, wpx_of k5_19.eq_1, wpx_of k5_21.eq_1, wpx_of k5_22.eq_1, wpx_of k5_23.eq_1, wpx_of k5_24.eq_1, wpx_of k5_25.eq_1, wpx_of k5_26.eq_1, wpx_of k5_27.eq_1, wpx_of k5_28.eq_1, wpx_of k5_29.eq_1, wpx_of k5_30.eq_1, wpx_of k5_31.eq_1, wpx_of k5_32.eq_1, wpx_of k5_33.eq_1, wpx_of k5_34.eq_1, hw, hr4', wpx_of b5_20.eq_1, nlt_iff, n0_le, go_sem])
end Go.Proofs.Ytfahkkefcdeohaa.Ax
