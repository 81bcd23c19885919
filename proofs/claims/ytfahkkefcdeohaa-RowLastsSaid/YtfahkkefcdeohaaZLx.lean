/- Texts put behind one another: LLasts. Conditions: none. -/
import Derived.Test.YtfahkkefcdeohaaZT
import Derived.Test.YtfahkkefcdeohaaSArgRZ
import Derived.Test.YtfahkkefcdeohaaZPu
set_option linter.unusedSimpArgs false
set_option linter.unusedVariables false
namespace Go.Proofs.Ytfahkkefcdeohaa.Ax
open Go Go.Ax Go.Ax.M
set_option maxRecDepth 100000
theorem awake2_spec {H : Heap} {K : AVal → Heap → Prop} (h : K (.bool true) H) : ACalls Try.prog 8 [] H K := run_known (v := .bool true) tab2Ok (loops := 5) (k := 6) (by kernel_rfl) rfl rfl h
theorem acts_get {l : List (Int × Int × Int)} {k : Nat} (h : k < l.length) : (l.map actC)[k]? = some [.int .i64 (l.getD k (0, 0, 0)).1, .int .i64 (l.getD k (0, 0, 0)).2.1, .int .u64 (l.getD k (0, 0, 0)).2.2] := by simp [actC, h, List.getD]

theorem at2n {H M : Heap} {a b : AObj} {m : Nat} : (H ++ a :: b :: M)[H.length + (m + 2)]? = M[m]? := by rw [List.getElem?_append_right (by omega)]; simp
theorem set2n {H M : Heap} {a b x : AObj} {m : Nat} : (H ++ a :: b :: M).set (H.length + (m + 2)) x = H ++ a :: b :: M.set m x := by rw [List.set_append_right _ _ (by omega)]; simp
theorem set_u64 {l : List Int} {k : Nat} {v : Int} : (u64s l).set k (.int .u64 v) = u64s (l.set k v) := by simp [u64s, List.map_set]

theorem and7 {q : Int} (h : 0 ≤ q ∧ q < 8) : IntKind.wrap .i64 ((BitVec.ofInt (IntKind.bits .i64) q &&& BitVec.ofInt (IntKind.bits .i64) 7).toNat : Int) = q := by
  rcases at_cases h with rfl | rfl | rfl | rfl | rfl | rfl | rfl | rfl <;> decide
theorem fence_nw {r : RowM} : (rowFence r).nw = r.nw := by
  simp only [rowFence, rowEvict]; split
  · split <;> rfl
  · rfl
theorem store_nw {r : RowM} {q v : Int} (h : 0 ≤ q ∧ q < 8) : u64s (rowStore r q v).nw = (u64s r.nw).set q.toNat (.int .u64 v) := by rw [set_u64]; simp [rowStore, h]

set_option maxHeartbeats 1000000 in
theorem rowLasts_law (H : Heap) (bs : List AVal) (h : ArgShapes Try.prog H 8 [22, 4] bs) : ACalls Try.prog 3 bs H fun v _ => v = .bool true := by
  obtain ⟨a1, l, rfl, h1, h⟩ := argShapes_cons h
  obtain ⟨a2, l, rfl, h2, h⟩ := argShapes_cons h
  obtain rfl := argShapes_nil h
  obtain ⟨oA, acts, rfl, hA⟩ := arg_acts h1
  obtain ⟨keep, rfl⟩ := h2.bool Try.underlying4
  clear h1 h2 h
  have kA := Keeps.of hA
  refine ACalls.into ok3 (Nat.le_of_ble_eq_true rfl) ?_; (try simp only [c3, wpx_of k3_0.eq_1, wpx_of k3_1.eq_1, wpx_of k3_2.eq_1, wpx_of k3_3.eq_1, wpx_of k3_4.eq_1, wpx_of k3_5.eq_1, wpx_of k3_6.eq_1, wpx_of k3_7.eq_1, wpx_of k3_8.eq_1, wpx_of k3_9.eq_1, wpx_of k3_10.eq_1, wpx_of k3_11.eq_1, wpx_of k3_13.eq_1, wpx_of k3_14.eq_1, wpx_of k3_16.eq_1, wpx_of k3_17.eq_1, wpx_of k3_18.eq_1, wpx_of k3_19.eq_1, wpx_of k3_20.eq_1, wpx_of k3_21.eq_1, wpx_of k3_22.eq_1, wpx_of k3_23.eq_1, wpx_of k3_24.eq_1, kA, Nat.add_assoc, go_sem]); repeat' ((first
    | refine And.intro (Or.inr rfl) ?_
    | ((first | refine cB ?_ ?_ | refine gT ?_ ?_ | refine gF ?_ ?_ | refine dT ?_ ?_ | refine dF ?_ ?_) <;> intro hc)
    | refine awake2_spec ?_) <;> try simp only [*, wpx_of k3_0.eq_1, wpx_of k3_1.eq_1, wpx_of k3_2.eq_1, wpx_of k3_3.eq_1, wpx_of k3_4.eq_1, wpx_of k3_5.eq_1, wpx_of k3_6.eq_1, wpx_of k3_7.eq_1, wpx_of k3_8.eq_1, wpx_of k3_9.eq_1, wpx_of k3_10.eq_1, wpx_of k3_11.eq_1, wpx_of k3_13.eq_1, wpx_of k3_14.eq_1, wpx_of k3_16.eq_1, wpx_of k3_17.eq_1, wpx_of k3_18.eq_1, wpx_of k3_19.eq_1, wpx_of k3_20.eq_1, wpx_of k3_21.eq_1, wpx_of k3_22.eq_1, wpx_of k3_23.eq_1, wpx_of k3_24.eq_1, kA, Nat.add_assoc, go_sem])
  have hlen : acts.length ≤ 60 := by omega
  refine ALoop.keep [10, 9, 8, 7, 0, 1, 5, 6] ?_; simp only [List.map_cons, List.map_nil, go_sem]
  refine ALoop.acc (α := RowM × List (List Int) × (Int × Int) × (Nat × Bool) × Heap) (fun k a => [(10, .int .i64 (k : Int)), (9, .int .i64 a.2.2.1.2), (8, .int .i64 a.2.2.1.1), (7, .slice (H.length + (a.2.2.2.1.1 + 2)) a.2.1.length 0 a.2.1.length a.2.2.2.1.2)]) (fun k a => H ++ .arr 18 [a.1.cells] false :: .arr 8 [u64s a.1.nw] false :: a.2.2.2.2)
    (fun k a => Lasts a.1 a.2.1 a.2.2.1.1 a.2.2.1.2 ∧ a.2.1.length ≤ k + 1 ∧ Keeps a.2.2.2.2 a.2.2.2.1.1 (.arr 8 (a.2.1.map u64s) false)) acts.length ?_ (a0 := (row0, [row0.nw], (0, -1), (0, true), [.arr 8 [u64s row0.nw] false])) ⟨lasts_start, by simp, .of rfl⟩
  intro k a hk I next
  obtain ⟨r, been, ⟨sure, sent⟩, ⟨m, fb⟩, G⟩ := a
  obtain ⟨I1, I2, I3⟩ := I
  simp only at I1 I2 I3 next ⊢
  refine ALoop.unfold ?_
  have hw := wrap_succ (k := k) (by omega)
  by_cases hks : k < acts.length
  · have hg := acts_get hks
    generalize acts.getD k (0, 0, 0) = act at hg
    obtain ⟨op, at_, v⟩ := act
    simp only at hg
    have hI3 := I3.set
    have hra : ∀ L, RowAt (H ++ .arr 18 [r.cells] false :: L) H.length 1 0 [r.cells] r := fun L => ⟨at0, rfl, rfl, I1.ok⟩
    have hb1 : (been.length + 1) * 64 ≤ 140737488355328 := by omega
    have hwb : IntKind.wrap .i64 ((been.length : Int) - 1) = (been.length : Int) - 1 := by
      have := I1.some_
      rw [show ((been.length : Int) - 1) = ((been.length - 1 : Nat) : Int) by omega]
      have := wrap_succ (k := been.length - 2) (by omega)
      simp [IntKind.wrap, IntKind.bits, IntKind.signed]; omega
    by_cases h0 : op = 0
    · subst h0
      by_cases hq : 0 ≤ at_ ∧ at_ < 8
      · have hand := and7 hq
        simp only [go_sem] at hand
        have q0 : (0 ≤ at_) = True := eq_true hq.1
        have q1 : (at_ < 8) = True := eq_true hq.2
        have q7 : (at_.toNat ≤ 7) = True := eq_true (by omega)
        have hst := (store_nw (r := r) (v := v) hq).symm
        have hl9 : (u64s (rowStore r at_ v).nw).length = 8 := by simp [u64s, (store_ok I1.ok at_ v).nw]
        have htk : List.take 8 (u64s (rowStore r at_ v).nw) = u64s (rowStore r at_ v).nw := List.take_of_length_le (by omega)
        have hls := lasts_store I1 hq (v := v)
        rw [show r.nw.set at_.toNat v = (rowStore r at_ v).nw by simp [rowStore, hq]] at hls
        have hl8 : (u64s r.nw).length = 8 := by simp [u64s, I1.ok.nw]
        cases fb
        all_goals
          (try simp only [wpx_of k3_0.eq_1, wpx_of k3_1.eq_1, wpx_of k3_2.eq_1, wpx_of k3_3.eq_1, wpx_of k3_4.eq_1, wpx_of k3_5.eq_1, wpx_of k3_6.eq_1, wpx_of k3_7.eq_1, wpx_of k3_8.eq_1, wpx_of k3_9.eq_1, wpx_of k3_10.eq_1, wpx_of k3_11.eq_1, wpx_of k3_13.eq_1, wpx_of k3_14.eq_1, wpx_of k3_16.eq_1, wpx_of k3_17.eq_1, wpx_of k3_18.eq_1, wpx_of k3_19.eq_1, wpx_of k3_20.eq_1, wpx_of k3_21.eq_1, wpx_of k3_22.eq_1, wpx_of k3_23.eq_1, wpx_of k3_24.eq_1, kA, hg, hw, hks, List.length_map, at2n, set2n, putRow, hq, hand, q0, q1, q7, hst, hl8, hl9, htk, hI3, hb1, wpx_of b3_12.eq_1, nlt_iff, n0_le, Nat.add_assoc, List.cons_append, List.nil_append, go_sem]); repeat' ((first
    | refine And.intro (Or.inr rfl) ?_
    | ((first | refine cB ?_ ?_ | refine gT ?_ ?_ | refine gF ?_ ?_ | refine dT ?_ ?_ | refine dF ?_ ?_) <;> intro hc)
    | refine row_Store_spec (hra _) ?_) <;> try simp only [*, wpx_of k3_0.eq_1, wpx_of k3_1.eq_1, wpx_of k3_2.eq_1, wpx_of k3_3.eq_1, wpx_of k3_4.eq_1, wpx_of k3_5.eq_1, wpx_of k3_6.eq_1, wpx_of k3_7.eq_1, wpx_of k3_8.eq_1, wpx_of k3_9.eq_1, wpx_of k3_10.eq_1, wpx_of k3_11.eq_1, wpx_of k3_13.eq_1, wpx_of k3_14.eq_1, wpx_of k3_16.eq_1, wpx_of k3_17.eq_1, wpx_of k3_18.eq_1, wpx_of k3_19.eq_1, wpx_of k3_20.eq_1, wpx_of k3_21.eq_1, wpx_of k3_22.eq_1, wpx_of k3_23.eq_1, wpx_of k3_24.eq_1, kA, hg, hw, hks, List.length_map, at2n, set2n, putRow, hq, hand, q0, q1, q7, hst, hl8, hl9, htk, hI3, hb1, wpx_of b3_12.eq_1, nlt_iff, n0_le, Nat.add_assoc, List.cons_append, List.nil_append, go_sem])
        case pos.false =>
          have next' := next (rowStore r at_ v, been ++ [(rowStore r at_ v).nw], (sure, -1), (m, false), List.set G m (.arr 8 ((been ++ [(rowStore r at_ v).nw]).map u64s) false) ++ [.arr 3 [[.int .i64 0, .int .i64 at_, .int .u64 v]] false, .arr 8 [u64s (rowStore r at_ v).nw] false]) hks ⟨hls, by simp; omega, fun L => by rw [List.append_assoc]; exact I3.self _ _⟩
          simp only [List.length_append, List.length_cons, List.length_nil, List.map_append, List.map_cons, List.map_nil, Nat.zero_add] at next'
          (refine ALoop.keep [10, 9, 8, 7, 0, 1, 5, 6] ?_; simp only [List.map_cons, List.map_nil, go_sem]; refine next')
        case pos.true =>
          have next' := next (rowStore r at_ v, been ++ [(rowStore r at_ v).nw], (sure, -1), (G.length + 2, false), G ++ [.arr 3 [[.int .i64 0, .int .i64 at_, .int .u64 v]] false, .arr 8 [u64s (rowStore r at_ v).nw] false, .arr 8 ((been ++ [(rowStore r at_ v).nw]).map u64s) false]) hks ⟨hls, by simp; omega, fun L => by rw [List.append_assoc]; exact at2⟩
          simp only [List.length_append, List.length_cons, List.length_nil, List.map_append, List.map_cons, List.map_nil, Nat.zero_add] at next'
          rw [List.take_of_length_le (by simp)]
          (refine ALoop.keep [10, 9, 8, 7, 0, 1, 5, 6] ?_; simp only [List.map_cons, List.map_nil, go_sem]; refine next')
      · have e : rowStore r at_ v = r := by simp only [rowStore, if_neg hq]
        (try simp only [wpx_of k3_0.eq_1, wpx_of k3_1.eq_1, wpx_of k3_2.eq_1, wpx_of k3_3.eq_1, wpx_of k3_4.eq_1, wpx_of k3_5.eq_1, wpx_of k3_6.eq_1, wpx_of k3_7.eq_1, wpx_of k3_8.eq_1, wpx_of k3_9.eq_1, wpx_of k3_10.eq_1, wpx_of k3_11.eq_1, wpx_of k3_13.eq_1, wpx_of k3_14.eq_1, wpx_of k3_16.eq_1, wpx_of k3_17.eq_1, wpx_of k3_18.eq_1, wpx_of k3_19.eq_1, wpx_of k3_20.eq_1, wpx_of k3_21.eq_1, wpx_of k3_22.eq_1, wpx_of k3_23.eq_1, wpx_of k3_24.eq_1, kA, hg, hw, hks, List.length_map, at2n, set2n, putRow, hq, e, wpx_of b3_12.eq_1, nlt_iff, n0_le, Nat.add_assoc, List.cons_append, List.nil_append, go_sem]); repeat' ((first
    | refine And.intro (Or.inr rfl) ?_
    | ((first | refine cB ?_ ?_ | refine gT ?_ ?_ | refine gF ?_ ?_ | refine dT ?_ ?_ | refine dF ?_ ?_) <;> intro hc)
    | refine row_Store_spec (hra _) ?_) <;> try simp only [*, wpx_of k3_0.eq_1, wpx_of k3_1.eq_1, wpx_of k3_2.eq_1, wpx_of k3_3.eq_1, wpx_of k3_4.eq_1, wpx_of k3_5.eq_1, wpx_of k3_6.eq_1, wpx_of k3_7.eq_1, wpx_of k3_8.eq_1, wpx_of k3_9.eq_1, wpx_of k3_10.eq_1, wpx_of k3_11.eq_1, wpx_of k3_13.eq_1, wpx_of k3_14.eq_1, wpx_of k3_16.eq_1, wpx_of k3_17.eq_1, wpx_of k3_18.eq_1, wpx_of k3_19.eq_1, wpx_of k3_20.eq_1, wpx_of k3_21.eq_1, wpx_of k3_22.eq_1, wpx_of k3_23.eq_1, wpx_of k3_24.eq_1, kA, hg, hw, hks, List.length_map, at2n, set2n, putRow, hq, e, wpx_of b3_12.eq_1, nlt_iff, n0_le, Nat.add_assoc, List.cons_append, List.nil_append, go_sem])
        (refine ALoop.keep [10, 9, 8, 7, 0, 1, 5, 6] ?_; simp only [List.map_cons, List.map_nil, go_sem]; refine next (r, been, (sure, sent), (m, fb), _) hks ⟨I1, by simp only; omega, I3.app _⟩)
    by_cases h1 : op = 1
    · subst h1
      (try simp only [wpx_of k3_0.eq_1, wpx_of k3_1.eq_1, wpx_of k3_2.eq_1, wpx_of k3_3.eq_1, wpx_of k3_4.eq_1, wpx_of k3_5.eq_1, wpx_of k3_6.eq_1, wpx_of k3_7.eq_1, wpx_of k3_8.eq_1, wpx_of k3_9.eq_1, wpx_of k3_10.eq_1, wpx_of k3_11.eq_1, wpx_of k3_13.eq_1, wpx_of k3_14.eq_1, wpx_of k3_16.eq_1, wpx_of k3_17.eq_1, wpx_of k3_18.eq_1, wpx_of k3_19.eq_1, wpx_of k3_20.eq_1, wpx_of k3_21.eq_1, wpx_of k3_22.eq_1, wpx_of k3_23.eq_1, wpx_of k3_24.eq_1, kA, hg, hw, hks, List.length_map, at2n, set2n, putRow, hwb, wpx_of b3_12.eq_1, nlt_iff, n0_le, Nat.add_assoc, List.cons_append, List.nil_append, go_sem]); repeat' ((first
    | refine And.intro (Or.inr rfl) ?_
    | ((first | refine cB ?_ ?_ | refine gT ?_ ?_ | refine gF ?_ ?_ | refine dT ?_ ?_ | refine dF ?_ ?_) <;> intro hc)
    | refine row_Flush_spec (hra _) ?_) <;> try simp only [*, wpx_of k3_0.eq_1, wpx_of k3_1.eq_1, wpx_of k3_2.eq_1, wpx_of k3_3.eq_1, wpx_of k3_4.eq_1, wpx_of k3_5.eq_1, wpx_of k3_6.eq_1, wpx_of k3_7.eq_1, wpx_of k3_8.eq_1, wpx_of k3_9.eq_1, wpx_of k3_10.eq_1, wpx_of k3_11.eq_1, wpx_of k3_13.eq_1, wpx_of k3_14.eq_1, wpx_of k3_16.eq_1, wpx_of k3_17.eq_1, wpx_of k3_18.eq_1, wpx_of k3_19.eq_1, wpx_of k3_20.eq_1, wpx_of k3_21.eq_1, wpx_of k3_22.eq_1, wpx_of k3_23.eq_1, wpx_of k3_24.eq_1, kA, hg, hw, hks, List.length_map, at2n, set2n, putRow, hwb, wpx_of b3_12.eq_1, nlt_iff, n0_le, Nat.add_assoc, List.cons_append, List.nil_append, go_sem])
      (refine ALoop.keep [10, 9, 8, 7, 0, 1, 5, 6] ?_; simp only [List.map_cons, List.map_nil, go_sem]; refine next (rowFlush r, been, (sure, (been.length : Int) - 1), (m, fb), _) hks ⟨lasts_flush I1, by simp only; omega, I3.app _⟩)
    · have hf := lasts_fence I1
      have hn : u64s r.nw = u64s (rowFence r).nw := by rw [fence_nw]
      (try simp only [wpx_of k3_0.eq_1, wpx_of k3_1.eq_1, wpx_of k3_2.eq_1, wpx_of k3_3.eq_1, wpx_of k3_4.eq_1, wpx_of k3_5.eq_1, wpx_of k3_6.eq_1, wpx_of k3_7.eq_1, wpx_of k3_8.eq_1, wpx_of k3_9.eq_1, wpx_of k3_10.eq_1, wpx_of k3_11.eq_1, wpx_of k3_13.eq_1, wpx_of k3_14.eq_1, wpx_of k3_16.eq_1, wpx_of k3_17.eq_1, wpx_of k3_18.eq_1, wpx_of k3_19.eq_1, wpx_of k3_20.eq_1, wpx_of k3_21.eq_1, wpx_of k3_22.eq_1, wpx_of k3_23.eq_1, wpx_of k3_24.eq_1, kA, hg, hw, hks, h0, h1, List.length_map, at2n, set2n, putRow, wpx_of b3_12.eq_1, nlt_iff, n0_le, Nat.add_assoc, List.cons_append, List.nil_append, go_sem]); repeat' ((first
    | refine And.intro (Or.inr rfl) ?_
    | ((first | refine cB ?_ ?_ | refine gT ?_ ?_ | refine gF ?_ ?_ | refine dT ?_ ?_ | refine dF ?_ ?_) <;> intro hc)
    | refine row_Fence_spec (hra _) ?_) <;> try simp only [*, wpx_of k3_0.eq_1, wpx_of k3_1.eq_1, wpx_of k3_2.eq_1, wpx_of k3_3.eq_1, wpx_of k3_4.eq_1, wpx_of k3_5.eq_1, wpx_of k3_6.eq_1, wpx_of k3_7.eq_1, wpx_of k3_8.eq_1, wpx_of k3_9.eq_1, wpx_of k3_10.eq_1, wpx_of k3_11.eq_1, wpx_of k3_13.eq_1, wpx_of k3_14.eq_1, wpx_of k3_16.eq_1, wpx_of k3_17.eq_1, wpx_of k3_18.eq_1, wpx_of k3_19.eq_1, wpx_of k3_20.eq_1, wpx_of k3_21.eq_1, wpx_of k3_22.eq_1, wpx_of k3_23.eq_1, wpx_of k3_24.eq_1, kA, hg, hw, hks, h0, h1, List.length_map, at2n, set2n, putRow, wpx_of b3_12.eq_1, nlt_iff, n0_le, Nat.add_assoc, List.cons_append, List.nil_append, go_sem])
      case neg.refine_1 =>
        rw [if_pos (by assumption)] at hf
        (refine ALoop.keep [10, 9, 8, 7, 0, 1, 5, 6] ?_; simp only [List.map_cons, List.map_nil, go_sem]; refine next (rowFence r, been, (sent, sent), (m, fb), _) hks ⟨hf, by simp only; omega, I3.app _⟩)
      case neg.refine_2 =>
        rw [if_neg (by assumption)] at hf
        (refine ALoop.keep [10, 9, 8, 7, 0, 1, 5, 6] ?_; simp only [List.map_cons, List.map_nil, go_sem]; refine next (rowFence r, been, (sure, sent), (m, fb), _) hks ⟨hf, by simp only; omega, I3.app _⟩)
  · have hra : ∀ L, RowAt (H ++ .arr 18 [r.cells] false :: L) H.length 1 0 [r.cells] r := fun L => ⟨at0, rfl, rfl, I1.ok⟩
    obtain ⟨⟨j, j1, j2, j3⟩, hnl, hkn⟩ := lasts_fall I1 keep
    have hok := fall_ok I1.ok keep
    have hI3 := I3.set
    have hG := I3.at
    (try simp only [wpx_of k3_0.eq_1, wpx_of k3_1.eq_1, wpx_of k3_2.eq_1, wpx_of k3_3.eq_1, wpx_of k3_4.eq_1, wpx_of k3_5.eq_1, wpx_of k3_6.eq_1, wpx_of k3_7.eq_1, wpx_of k3_8.eq_1, wpx_of k3_9.eq_1, wpx_of k3_10.eq_1, wpx_of k3_11.eq_1, wpx_of k3_13.eq_1, wpx_of k3_14.eq_1, wpx_of k3_16.eq_1, wpx_of k3_17.eq_1, wpx_of k3_18.eq_1, wpx_of k3_19.eq_1, wpx_of k3_20.eq_1, wpx_of k3_21.eq_1, wpx_of k3_22.eq_1, wpx_of k3_23.eq_1, wpx_of k3_24.eq_1, kA, hw, hks, List.length_map, at2n, set2n, putRow, wpx_of b3_12.eq_1, nlt_iff, n0_le, Nat.add_assoc, List.cons_append, List.nil_append, go_sem]); repeat' ((first
    | refine And.intro (Or.inr rfl) ?_
    | ((first | refine cB ?_ ?_ | refine gT ?_ ?_ | refine gF ?_ ?_ | refine dT ?_ ?_ | refine dF ?_ ?_) <;> intro hc)
    | refine row_Fall_spec (hra _) (fun b => ?_)) <;> try simp only [*, wpx_of k3_0.eq_1, wpx_of k3_1.eq_1, wpx_of k3_2.eq_1, wpx_of k3_3.eq_1, wpx_of k3_4.eq_1, wpx_of k3_5.eq_1, wpx_of k3_6.eq_1, wpx_of k3_7.eq_1, wpx_of k3_8.eq_1, wpx_of k3_9.eq_1, wpx_of k3_10.eq_1, wpx_of k3_11.eq_1, wpx_of k3_13.eq_1, wpx_of k3_14.eq_1, wpx_of k3_16.eq_1, wpx_of k3_17.eq_1, wpx_of k3_18.eq_1, wpx_of k3_19.eq_1, wpx_of k3_20.eq_1, wpx_of k3_21.eq_1, wpx_of k3_22.eq_1, wpx_of k3_23.eq_1, wpx_of k3_24.eq_1, kA, hw, hks, List.length_map, at2n, set2n, putRow, wpx_of b3_12.eq_1, nlt_iff, n0_le, Nat.add_assoc, List.cons_append, List.nil_append, go_sem])
    obtain ⟨su, hsu⟩ := Int.eq_ofNat_of_zero_le I1.s0
    have h8 := I1.eight
    clear next hw
    generalize rowFall keep r = R at *
    obtain ⟨la, nw, out, se⟩ := R
    have hnl : nw = la := hnl
    subst hnl
    have hla : nw.length = 8 := hok.la
    obtain ⟨c0, c1, c2, c3, c4, c5, c6, c7, rfl⟩ := eight hla
    have hj3 : been.getD j [] = [c0, c1, c2, c3, c4, c5, c6, c7] := j3
    have hkn : keep = true → [c0, c1, c2, c3, c4, c5, c6, c7] = r.nw := hkn
    clear j3 hok
    subst hsu
    refine ALoop.keep [12, 1, 5, 6, 7] ?_; simp only [List.map_cons, List.map_nil, go_sem]
    refine ALoop.acc (fun t (_ : Unit) => [(12, .int .i64 ((su + t : Nat) : Int))]) (fun _ _ => _) (fun t _ => True) (j - su) ?_ (a0 := ()) trivial
    intro t _ ht _ next
    refine ALoop.unfold ?_
    have hjl : su + t < been.length := by omega
    obtain ⟨e0, e1, e2, e3, e4, e5, e6, e7, he⟩ := eight (h8 (been.getD (su + t) []) (by simp [List.getD, hjl]))
    have hbg : (been.map u64s)[su + t]? = some [.int .u64 e0, .int .u64 e1, .int .u64 e2, .int .u64 e3, .int .u64 e4, .int .u64 e5, .int .u64 e6, .int .u64 e7] := by
      have : been[su + t]? = some [e0, e1, e2, e3, e4, e5, e6, e7] := by rw [← he]; simp [List.getD, hjl]
      rw [List.getElem?_map, this]; rfl
    have hw := wrap_succ (k := su + t) (by omega)
    have hlt : (((su + t : Nat) : Int) < (been.length : Int)) = True := eq_true (by omega)
    clear h8
    cases keep with
    | true =>
      have hkn := hkn rfl
      rw [← hkn] at next ⊢
      (try simp only [wpx_of k3_0.eq_1, wpx_of k3_1.eq_1, wpx_of k3_2.eq_1, wpx_of k3_3.eq_1, wpx_of k3_4.eq_1, wpx_of k3_5.eq_1, wpx_of k3_6.eq_1, wpx_of k3_7.eq_1, wpx_of k3_8.eq_1, wpx_of k3_9.eq_1, wpx_of k3_10.eq_1, wpx_of k3_11.eq_1, wpx_of k3_13.eq_1, wpx_of k3_14.eq_1, wpx_of k3_16.eq_1, wpx_of k3_17.eq_1, wpx_of k3_18.eq_1, wpx_of k3_19.eq_1, wpx_of k3_20.eq_1, wpx_of k3_21.eq_1, wpx_of k3_22.eq_1, wpx_of k3_23.eq_1, wpx_of k3_24.eq_1, hG, hbg, hw, hlt, at2n, List.length_map, RowM.cells, u64s, wpx_of b3_15.eq_1, n0_le, Nat.add_assoc, List.cons_append, List.nil_append, go_sem]); repeat' ((first
    | refine And.intro (Or.inr rfl) ?_
    | ((first | refine cB ?_ ?_ | refine gT ?_ ?_ | refine gF ?_ ?_ | refine dT ?_ ?_ | refine dF ?_ ?_) <;> intro hc)) <;> try simp only [*, wpx_of k3_0.eq_1, wpx_of k3_1.eq_1, wpx_of k3_2.eq_1, wpx_of k3_3.eq_1, wpx_of k3_4.eq_1, wpx_of k3_5.eq_1, wpx_of k3_6.eq_1, wpx_of k3_7.eq_1, wpx_of k3_8.eq_1, wpx_of k3_9.eq_1, wpx_of k3_10.eq_1, wpx_of k3_11.eq_1, wpx_of k3_13.eq_1, wpx_of k3_14.eq_1, wpx_of k3_16.eq_1, wpx_of k3_17.eq_1, wpx_of k3_18.eq_1, wpx_of k3_19.eq_1, wpx_of k3_20.eq_1, wpx_of k3_21.eq_1, wpx_of k3_22.eq_1, wpx_of k3_23.eq_1, wpx_of k3_24.eq_1, hG, hbg, hw, hlt, at2n, List.length_map, RowM.cells, u64s, wpx_of b3_15.eq_1, n0_le, Nat.add_assoc, List.cons_append, List.nil_append, go_sem])
      by_cases htj : su + t = j
      · exfalso
        rw [htj, hj3] at he
        simp only [List.cons.injEq, and_true] at he
        simp [he] at hc
      · (refine ALoop.keep [12, 1, 5, 6, 7] ?_; simp only [List.map_cons, List.map_nil, go_sem]; refine next () (by omega) trivial)
    | false =>
      clear hkn
      (try simp only [wpx_of k3_0.eq_1, wpx_of k3_1.eq_1, wpx_of k3_2.eq_1, wpx_of k3_3.eq_1, wpx_of k3_4.eq_1, wpx_of k3_5.eq_1, wpx_of k3_6.eq_1, wpx_of k3_7.eq_1, wpx_of k3_8.eq_1, wpx_of k3_9.eq_1, wpx_of k3_10.eq_1, wpx_of k3_11.eq_1, wpx_of k3_13.eq_1, wpx_of k3_14.eq_1, wpx_of k3_16.eq_1, wpx_of k3_17.eq_1, wpx_of k3_18.eq_1, wpx_of k3_19.eq_1, wpx_of k3_20.eq_1, wpx_of k3_21.eq_1, wpx_of k3_22.eq_1, wpx_of k3_23.eq_1, wpx_of k3_24.eq_1, hG, hbg, hw, hlt, at2n, List.length_map, RowM.cells, u64s, wpx_of b3_15.eq_1, n0_le, Nat.add_assoc, List.cons_append, List.nil_append, go_sem]); repeat' ((first
    | refine And.intro (Or.inr rfl) ?_
    | ((first | refine cB ?_ ?_ | refine gT ?_ ?_ | refine gF ?_ ?_ | refine dT ?_ ?_ | refine dF ?_ ?_) <;> intro hc)) <;> try simp only [*, wpx_of k3_0.eq_1, wpx_of k3_1.eq_1, wpx_of k3_2.eq_1, wpx_of k3_3.eq_1, wpx_of k3_4.eq_1, wpx_of k3_5.eq_1, wpx_of k3_6.eq_1, wpx_of k3_7.eq_1, wpx_of k3_8.eq_1, wpx_of k3_9.eq_1, wpx_of k3_10.eq_1, wpx_of k3_11.eq_1, wpx_of k3_13.eq_1, wpx_of k3_14.eq_1, wpx_of k3_16.eq_1, wpx_of k3_17.eq_1, wpx_of k3_18.eq_1, wpx_of k3_19.eq_1, wpx_of k3_20.eq_1, wpx_of k3_21.eq_1, wpx_of k3_22.eq_1, wpx_of k3_23.eq_1, wpx_of k3_24.eq_1, hG, hbg, hw, hlt, at2n, List.length_map, RowM.cells, u64s, wpx_of b3_15.eq_1, n0_le, Nat.add_assoc, List.cons_append, List.nil_append, go_sem])
      by_cases htj : su + t = j
      · exfalso
        rw [htj, hj3] at he
        simp only [List.cons.injEq, and_true] at he
        simp [he] at hc
      · (refine ALoop.keep [12, 1, 5, 6, 7] ?_; simp only [List.map_cons, List.map_nil, go_sem]; refine next () (by omega) trivial)
end Go.Proofs.Ytfahkkefcdeohaa.Ax
