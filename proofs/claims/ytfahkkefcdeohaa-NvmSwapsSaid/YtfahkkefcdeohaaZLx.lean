/- Texts put behind one another: LSwaps. Conditions: none. -/
import Derived.Test.YtfahkkefcdeohaaZT
import Derived.Test.YtfahkkefcdeohaaSArgRZ
import Derived.Test.YtfahkkefcdeohaaSNvmZ
set_option linter.unusedSimpArgs false
set_option linter.unusedVariables false
namespace Go.Ax.M
open Go Go.Ax
theorem and7_in (q : Int) : ∃ p : Int, 0 ≤ p ∧ p < 8 ∧ IntKind.wrap .i64 ((BitVec.ofInt (IntKind.bits .i64) q &&& BitVec.ofInt (IntKind.bits .i64) 7).toNat : Int) = p := by
  have h : (BitVec.ofInt 64 q &&& BitVec.ofInt 64 7).toNat ≤ 7 := by
    rw [BitVec.toNat_and]
    exact Nat.and_le_right
  refine ⟨((BitVec.ofInt 64 q &&& BitVec.ofInt 64 7).toNat : Int), by omega, by omega, ?_⟩
  show IntKind.wrap .i64 ((BitVec.ofInt 64 q &&& BitVec.ofInt 64 7).toNat : Int) = _
  exact w64' (by omega) (by omega)
theorem row_get {r : RowM} (h : r.ok) {q : Int} (hq : 0 ≤ q ∧ q < 8) : (u64s r.nw)[q.toNat]? = some (.int .u64 (rowLoad r q)) := by
  have hl := h.nw
  have hlt : q.toNat < r.nw.length := by omega
  simp [u64s, rowLoad, hq, List.getD, hlt]
theorem row_one {r : RowM} : row [r] 0 = r := rfl
theorem store_nwS {r : RowM} {q v : Int} (h : 0 ≤ q ∧ q < 8) : (u64s r.nw).set q.toNat (.int .u64 v) = u64s (rowStore r q v).nw := by simp [rowStore, h, u64s, List.map_set]
end Go.Ax.M
namespace Go.Proofs.Ytfahkkefcdeohaa.Ax
open Go Go.Ax Go.Ax.M
set_option maxRecDepth 100000
theorem awake3_spec {H : Heap} {K : AVal → Heap → Prop} (h : K (.bool true) H) : ACalls Try.prog 13 [] H K := run_known (v := .bool true) tab3Ok (loops := 20) (k := 20) (by kernel_rfl) rfl rfl h

theorem nvmSwaps_law (H : Heap) (bs : List AVal) (h : ArgShapes Try.prog H 8 [35] bs) : ACalls Try.prog 4 bs H fun v _ => v = .bool true := by
  obtain ⟨a1, l, rfl, h1, h⟩ := argShapes_cons h
  obtain rfl := argShapes_nil h
  obtain ⟨oA, acts, rfl, hA⟩ := arg_acts3 h1
  clear h1 h
  have kA := Keeps.of hA
  refine ACalls.into ok4 (Nat.le_of_ble_eq_true rfl) ?_; (try simp only [c4, wpx_of k4_0.eq_1, wpx_of k4_1.eq_1, wpx_of k4_2.eq_1, wpx_of k4_3.eq_1, wpx_of k4_4.eq_1, wpx_of k4_5.eq_1, wpx_of k4_6.eq_1, wpx_of k4_7.eq_1, wpx_of k4_8.eq_1, wpx_of k4_9.eq_1, wpx_of k4_10.eq_1, wpx_of k4_11.eq_1, wpx_of k4_13.eq_1, wpx_of k4_14.eq_1, wpx_of k4_15.eq_1, wpx_of k4_16.eq_1, wpx_of k4_17.eq_1, wpx_of k4_18.eq_1, kA, Nat.add_assoc, go_sem]); repeat' ((first
    | refine And.intro (Or.inr rfl) ?_
    | ((first | refine cB ?_ ?_ | refine gT ?_ ?_ | refine gF ?_ ?_ | refine dT ?_ ?_ | refine dF ?_ ?_) <;> intro hc)
    | refine awake3_spec ?_
    | refine nvm_New_spec (n := 1) (by decide) (by decide) ?_) <;> try simp only [*, wpx_of k4_0.eq_1, wpx_of k4_1.eq_1, wpx_of k4_2.eq_1, wpx_of k4_3.eq_1, wpx_of k4_4.eq_1, wpx_of k4_5.eq_1, wpx_of k4_6.eq_1, wpx_of k4_7.eq_1, wpx_of k4_8.eq_1, wpx_of k4_9.eq_1, wpx_of k4_10.eq_1, wpx_of k4_11.eq_1, wpx_of k4_13.eq_1, wpx_of k4_14.eq_1, wpx_of k4_15.eq_1, wpx_of k4_16.eq_1, wpx_of k4_17.eq_1, wpx_of k4_18.eq_1, kA, Nat.add_assoc, go_sem])
  have hlen : acts.length ≤ 60 := by omega
  refine ALoop.keep [6, 0, 3, 5] ?_; simp only [List.map_cons, List.map_nil, go_sem]
  refine ALoop.acc (α := RowM × Int × Heap) (fun k a => [(6, .int .i64 (k : Int))]) (fun k a => H ++ rowsO [a.1] :: memO H.length 1 true false a.2.1 :: .arr 8 [u64s a.1.nw] false :: a.2.2) (fun k a => a.1.ok ∧ 0 ≤ a.2.1 ∧ a.2.1 ≤ k) acts.length ?_ (a0 := (row0, 0, [])) ⟨⟨rfl, rfl⟩, by simp, by simp⟩
  intro k a hk I next
  obtain ⟨r, c, G⟩ := a
  obtain ⟨I1, I2, I3⟩ := I
  simp only at I1 I2 I3 next ⊢
  refine ALoop.unfold ?_
  have hw := wrap_succ (k := k) (by omega)
  by_cases hks : k < acts.length
  · have hg := acts3_get hks
    generalize acts.getD k (0, 0, 0, 0, .top) = act at hg
    obtain ⟨op, at_, old, v, kp⟩ := act
    simp only at hg
    obtain ⟨q, q0, q1, hand⟩ := and7_in at_
    simp only [go_sem] at hand
    have hm : ∀ (r : RowM) (c : Int) (L : Heap), r.ok → 0 ≤ c → c ≤ 1000 → MemAt (H ++ rowsO [r] :: memO H.length 1 true false c :: L) (H.length + 1) H.length 1 true false c [r] := fun r c L hr h0 h1 => ⟨at1, at0, rfl, by simpa using hr, by decide, h0, by omega⟩
    have hget := row_get I1 ⟨q0, q1⟩
    have t0 : (0 ≤ q) = True := eq_true q0
    have t1 : (q < 8) = True := eq_true q1
    have t7 : (q.toNat ≤ 7) = True := eq_true (by omega)
    have hl8 : (u64s r.nw).length = 8 := by simp [u64s, I1.nw]
    have hqe : Hid (q = 8 * ((0 : Nat) : Int) + q) := by show q = 8 * ((0 : Nat) : Int) + q; omega
    by_cases hl : rowLoad r q = old
    · have hst := store_nwS (r := r) (v := v) ⟨q0, q1⟩
      have hok := store_ok I1 q v
      have hget2 := row_get hok ⟨q0, q1⟩
      have hl9 : (u64s (rowStore r q v).nw).length = 8 := by simp [u64s, hok.nw]
      (try simp only [wpx_of k4_0.eq_1, wpx_of k4_1.eq_1, wpx_of k4_2.eq_1, wpx_of k4_3.eq_1, wpx_of k4_4.eq_1, wpx_of k4_5.eq_1, wpx_of k4_6.eq_1, wpx_of k4_7.eq_1, wpx_of k4_8.eq_1, wpx_of k4_9.eq_1, wpx_of k4_10.eq_1, wpx_of k4_11.eq_1, wpx_of k4_13.eq_1, wpx_of k4_14.eq_1, wpx_of k4_15.eq_1, wpx_of k4_16.eq_1, wpx_of k4_17.eq_1, wpx_of k4_18.eq_1, kA, hg, hw, hks, List.length_map, hand, hget, hget2, hst, t0, t1, t7, hl8, hl9, hl, row_one, wpx_of b4_12.eq_1, nlt_iff, n0_le, Nat.add_assoc, List.cons_append, List.nil_append, go_sem]); repeat' ((first
    | refine And.intro (Or.inr rfl) ?_
    | ((first | refine cB ?_ ?_ | refine gT ?_ ?_ | refine gF ?_ ?_ | refine dT ?_ ?_ | refine dF ?_ ?_) <;> intro hc)
    | refine nvm_Swap_spec (hm r c _ I1 I2 (by omega)) (by omega) hqe ⟨q0, q1⟩ (by decide) (fun hc => absurd hl hc) (fun hc => ?_)
    | refine nvm_Load_spec (hm (rowStore r q v) (c + 1) _ hok (by omega) (by omega)) hqe ⟨q0, q1⟩ (by decide) ?_) <;> try simp only [*, wpx_of k4_0.eq_1, wpx_of k4_1.eq_1, wpx_of k4_2.eq_1, wpx_of k4_3.eq_1, wpx_of k4_4.eq_1, wpx_of k4_5.eq_1, wpx_of k4_6.eq_1, wpx_of k4_7.eq_1, wpx_of k4_8.eq_1, wpx_of k4_9.eq_1, wpx_of k4_10.eq_1, wpx_of k4_11.eq_1, wpx_of k4_13.eq_1, wpx_of k4_14.eq_1, wpx_of k4_15.eq_1, wpx_of k4_16.eq_1, wpx_of k4_17.eq_1, wpx_of k4_18.eq_1, kA, hg, hw, hks, List.length_map, hand, hget, hget2, hst, t0, t1, t7, hl8, hl9, hl, row_one, wpx_of b4_12.eq_1, nlt_iff, n0_le, Nat.add_assoc, List.cons_append, List.nil_append, go_sem])
      (refine ALoop.keep [6, 0, 3, 5] ?_; simp only [List.map_cons, List.map_nil, go_sem]; refine next (rowStore r q v, c + 1, G) hks ⟨hok, by simp only; omega, by simp only; omega⟩)
    · (try simp only [wpx_of k4_0.eq_1, wpx_of k4_1.eq_1, wpx_of k4_2.eq_1, wpx_of k4_3.eq_1, wpx_of k4_4.eq_1, wpx_of k4_5.eq_1, wpx_of k4_6.eq_1, wpx_of k4_7.eq_1, wpx_of k4_8.eq_1, wpx_of k4_9.eq_1, wpx_of k4_10.eq_1, wpx_of k4_11.eq_1, wpx_of k4_13.eq_1, wpx_of k4_14.eq_1, wpx_of k4_15.eq_1, wpx_of k4_16.eq_1, wpx_of k4_17.eq_1, wpx_of k4_18.eq_1, kA, hg, hw, hks, List.length_map, hand, hget, t0, t1, t7, hl8, hl, row_one, wpx_of b4_12.eq_1, nlt_iff, n0_le, Nat.add_assoc, List.cons_append, List.nil_append, go_sem]); repeat' ((first
    | refine And.intro (Or.inr rfl) ?_
    | ((first | refine cB ?_ ?_ | refine gT ?_ ?_ | refine gF ?_ ?_ | refine dT ?_ ?_ | refine dF ?_ ?_) <;> intro hc)
    | refine nvm_Swap_spec (hm r c _ I1 I2 (by omega)) (by omega) hqe ⟨q0, q1⟩ (by decide) (fun hc => ?_) (fun hc => absurd hc hl)
    | refine nvm_Load_spec (hm r c _ I1 I2 (by omega)) hqe ⟨q0, q1⟩ (by decide) ?_) <;> try simp only [*, wpx_of k4_0.eq_1, wpx_of k4_1.eq_1, wpx_of k4_2.eq_1, wpx_of k4_3.eq_1, wpx_of k4_4.eq_1, wpx_of k4_5.eq_1, wpx_of k4_6.eq_1, wpx_of k4_7.eq_1, wpx_of k4_8.eq_1, wpx_of k4_9.eq_1, wpx_of k4_10.eq_1, wpx_of k4_11.eq_1, wpx_of k4_13.eq_1, wpx_of k4_14.eq_1, wpx_of k4_15.eq_1, wpx_of k4_16.eq_1, wpx_of k4_17.eq_1, wpx_of k4_18.eq_1, kA, hg, hw, hks, List.length_map, hand, hget, t0, t1, t7, hl8, hl, row_one, wpx_of b4_12.eq_1, nlt_iff, n0_le, Nat.add_assoc, List.cons_append, List.nil_append, go_sem])
      (refine ALoop.keep [6, 0, 3, 5] ?_; simp only [List.map_cons, List.map_nil, go_sem]; refine next (r, c, G) hks ⟨I1, by simp only; omega, by simp only; omega⟩)
  · (try simp only [wpx_of k4_0.eq_1, wpx_of k4_1.eq_1, wpx_of k4_2.eq_1, wpx_of k4_3.eq_1, wpx_of k4_4.eq_1, wpx_of k4_5.eq_1, wpx_of k4_6.eq_1, wpx_of k4_7.eq_1, wpx_of k4_8.eq_1, wpx_of k4_9.eq_1, wpx_of k4_10.eq_1, wpx_of k4_11.eq_1, wpx_of k4_13.eq_1, wpx_of k4_14.eq_1, wpx_of k4_15.eq_1, wpx_of k4_16.eq_1, wpx_of k4_17.eq_1, wpx_of k4_18.eq_1, kA, hw, hks, List.length_map, wpx_of b4_12.eq_1, nlt_iff, n0_le, Nat.add_assoc, List.cons_append, List.nil_append, go_sem]); repeat' ((first
    | refine And.intro (Or.inr rfl) ?_
    | ((first | refine cB ?_ ?_ | refine gT ?_ ?_ | refine gF ?_ ?_ | refine dT ?_ ?_ | refine dF ?_ ?_) <;> intro hc)) <;> try simp only [*, wpx_of k4_0.eq_1, wpx_of k4_1.eq_1, wpx_of k4_2.eq_1, wpx_of k4_3.eq_1, wpx_of k4_4.eq_1, wpx_of k4_5.eq_1, wpx_of k4_6.eq_1, wpx_of k4_7.eq_1, wpx_of k4_8.eq_1, wpx_of k4_9.eq_1, wpx_of k4_10.eq_1, wpx_of k4_11.eq_1, wpx_of k4_13.eq_1, wpx_of k4_14.eq_1, wpx_of k4_15.eq_1, wpx_of k4_16.eq_1, wpx_of k4_17.eq_1, wpx_of k4_18.eq_1, kA, hw, hks, List.length_map, wpx_of b4_12.eq_1, nlt_iff, n0_le, Nat.add_assoc, List.cons_append, List.nil_append, go_sem])
end Go.Proofs.Ytfahkkefcdeohaa.Ax
