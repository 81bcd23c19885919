/- The reference's memories: contracts of the methods. Conditions: none. -/
import Derived.Test.YtfahkkefcdeohaaSRefRowZ
import Derived.Test.YtfahkkefcdeohaaSMem5Z
set_option linter.unusedSimpArgs false
set_option linter.unusedVariables false
namespace Go.Proofs.Ytfahkkefcdeohaa.Ax
open Go Go.Ax Go.Ax.M
section
variable {H : Heap} {K : AVal → Heap → Prop} {oM oR n o p : Nat} {f fl fp ro rp : Bool} {kv : AVal} {m : MemM} {l : List Int}

theorem refG_may_spec {at_ many : Int} (h : H[oM]? = some (memG oR n f kv m)) (hK : K (.int .i64 (mayN m.off at_ many)) H) : ACalls Try.prog 49 [.ptr oM 1 0 0, .int .i64 at_, .int .i64 many] H K := by
  have k1 : Keeps H oM (.arr 5 [[.slice oR n 0 n f, .bool m.off, .int .i64 m.c, .int .i64 m.fuse, kv]] false) := Keeps.of h
  have k0 := k1.at
  obtain ⟨rows, off, c, fuse, keep⟩ := m
  cases off with
  | true =>
    refine ACalls.into ok49 (Nat.le_of_ble_eq_true rfl) ?_; (try simp only [c49, wpx_of k49_0.eq_1, wpx_of k49_1.eq_1, wpx_of k49_2.eq_1, wpx_of k49_3.eq_1, k0, go_sem]); repeat' ((first
    | refine And.intro (Or.inr rfl) ?_
    | ((first | refine cB ?_ ?_ | refine gT ?_ ?_ | refine gF ?_ ?_ | refine dT ?_ ?_ | refine dF ?_ ?_) <;> intro hc)) <;> try simp only [*, wpx_of k49_0.eq_1, wpx_of k49_1.eq_1, wpx_of k49_2.eq_1, wpx_of k49_3.eq_1, k0, go_sem])
    all_goals exact hK
  | false =>
    by_cases h0 : at_ < 0 <;> by_cases h1 : many ≤ at_
    all_goals
      simp only [mayN, h0, h1, decide_true, decide_false, Bool.true_or, Bool.or_true, Bool.or_self, cond_true, cond_false, Bool.or_false] at hK
      refine ACalls.into ok49 (Nat.le_of_ble_eq_true rfl) ?_; (try simp only [c49, wpx_of k49_0.eq_1, wpx_of k49_1.eq_1, wpx_of k49_2.eq_1, wpx_of k49_3.eq_1, k0, h0, h1, go_sem]); repeat' ((first
    | refine And.intro (Or.inr rfl) ?_
    | ((first | refine cB ?_ ?_ | refine gT ?_ ?_ | refine gF ?_ ?_ | refine dT ?_ ?_ | refine dF ?_ ?_) <;> intro hc)) <;> try simp only [*, wpx_of k49_0.eq_1, wpx_of k49_1.eq_1, wpx_of k49_2.eq_1, wpx_of k49_3.eq_1, k0, h0, h1, go_sem])
      all_goals exact hK

theorem refG_Crash_spec {ka : AVal} (h : MemG H oM oR n f kv m) (ho : KeepAt H ka l) (hl : l.length ≤ 1000) (hK : K (.tup []) (memH H oM oR n f kv (crashM m l))) :
    ACalls Try.prog 35 [.ptr oM 1 0 0, ka] H K := by
  have k1 : Keeps H oM (.arr 5 [[.slice oR n 0 n f, .bool m.off, .int .i64 m.c, .int .i64 m.fuse, kv]] false) := Keeps.of h.mem
  have k0 := k1.at
  cases hoff : m.off with
  | true =>
    have e : crashM m l = m := by unfold crashM; rw [hoff]; rfl
    rw [e, memH_self h] at hK
    rw [hoff] at k0
    refine ACalls.into ok35 (Nat.le_of_ble_eq_true rfl) ?_; (try simp only [c35, wpx_of k35_0.eq_1, wpx_of k35_2.eq_1, wpx_of k35_3.eq_1, wpx_of k35_4.eq_1, wpx_of k35_6.eq_1, wpx_of k35_7.eq_1, k0, go_sem]); repeat' ((first
    | refine And.intro (Or.inr rfl) ?_
    | ((first | refine cB ?_ ?_ | refine gT ?_ ?_ | refine gF ?_ ?_ | refine dT ?_ ?_ | refine dF ?_ ?_) <;> intro hc)) <;> try simp only [*, wpx_of k35_0.eq_1, wpx_of k35_2.eq_1, wpx_of k35_3.eq_1, wpx_of k35_4.eq_1, wpx_of k35_6.eq_1, wpx_of k35_7.eq_1, k0, go_sem])
    all_goals exact hK
  | false =>
    have k0' := k0
    rw [hoff] at k0
    have hne := h.ne
    have hne' := Ne.symm h.ne
    refine ACalls.into ok35 (Nat.le_of_ble_eq_true rfl) ?_; (try simp only [c35, wpx_of k35_0.eq_1, wpx_of k35_2.eq_1, wpx_of k35_3.eq_1, wpx_of k35_4.eq_1, wpx_of k35_6.eq_1, wpx_of k35_7.eq_1, k0, go_sem]); repeat' ((first
    | refine And.intro (Or.inr rfl) ?_
    | ((first | refine cB ?_ ?_ | refine gT ?_ ?_ | refine gF ?_ ?_ | refine dT ?_ ?_ | refine dF ?_ ?_) <;> intro hc)) <;> try simp only [*, wpx_of k35_0.eq_1, wpx_of k35_2.eq_1, wpx_of k35_3.eq_1, wpx_of k35_4.eq_1, wpx_of k35_6.eq_1, wpx_of k35_7.eq_1, k0, go_sem])
    refine ALoop.keep [4, 0, 1] ?_; simp only [List.map_cons, List.map_nil, go_sem]
    refine ALoop.heap (H' := H.set oR (rowsO (turnedR (fallG l) m.rows 0))) (by rw [turnedR_zero]; exact (set_same h.robj).symm) ?_
    refine ALoop.acc (α := Unit) (fun k _ => [(4, .int .i64 (k : Int))]) (fun k _ => H.set oR (rowsO (turnedR (fallG l) m.rows k))) (fun _ _ => True) n ?_ (a0 := ()) trivial
    intro k _ hk _ next
    refine ALoop.unfold ?_
    have hle := h.le
    have hw := wrap_succ (k := k) (by omega)
    have g1 : ∀ x, (H.set oR x)[oM]? = some (.arr 5 [[.slice oR n 0 n f, .bool false, .int .i64 m.c, .int .i64 m.fuse, kv]] false) := fun x => by rw [List.getElem?_set_ne hne']; exact k0
    have g2 : ∀ x, (H.set oR x)[oR]? = some x := fun x => List.getElem?_set_self (List.getElem?_eq_some_iff.1 h.robj).1
    have g3 : ∀ x, KeepAt (H.set oR x) ka l := fun x => ho.set h.robj (by simp [rowsO])
    have g4 : ∀ x y, ((H.set oR x).set oM y)[oM]? = some y := fun x y => List.getElem?_set_self (by rw [List.length_set]; exact (List.getElem?_eq_some_iff.1 h.mem).1)
    have hl1 : ((turnedR (fallG l) m.rows k).map RowM.cells).length = n := by rw [List.length_map, turnedR_len, h.len]
    by_cases hkn : k < n
    · have hkr : k < m.rows.length := by rw [h.len]; exact hkn
      have hra : RowAt (H.set oR (rowsO (turnedR (fallG l) m.rows k))) oR n k ((turnedR (fallG l) m.rows k).map RowM.cells) (row (turnedR (fallG l) m.rows k) k) :=
        ⟨g2 _, hl1, by rw [List.getElem?_map, row_some (by rw [turnedR_len]; exact hkr)]; rfl, row_ok (turnedR_ok (fun i r h => fall_ok h _) h.ok k) (by rw [turnedR_len]; exact hkr)⟩
      have hts : turnedR (fallG l) m.rows (k + 1) = (turnedR (fallG l) m.rows k).set k (rowFall (hasI l (k : Int)) (row (turnedR (fallG l) m.rows k) k)) := by rw [turnedR_succ hkr]; rfl
      rw [hts] at next
      generalize turnedR (fallG l) m.rows k = R at *
      (try simp only [wpx_of k35_0.eq_1, wpx_of k35_2.eq_1, wpx_of k35_3.eq_1, wpx_of k35_4.eq_1, wpx_of k35_6.eq_1, wpx_of k35_7.eq_1, hw, g1, hkn, wpx_of b35_5.eq_1, nlt_iff, n0_le, go_sem]); repeat' ((first
    | refine And.intro (Or.inr rfl) ?_
    | ((first | refine cB ?_ ?_ | refine gT ?_ ?_ | refine gF ?_ ?_ | refine dT ?_ ?_ | refine dF ?_ ?_) <;> intro hc)) <;> try simp only [*, wpx_of k35_0.eq_1, wpx_of k35_2.eq_1, wpx_of k35_3.eq_1, wpx_of k35_4.eq_1, wpx_of k35_6.eq_1, wpx_of k35_7.eq_1, hw, g1, hkn, wpx_of b35_5.eq_1, nlt_iff, n0_le, go_sem])
      refine ALoop.keep [5, 6, 0, 1, 4] ?_; simp only [List.map_cons, List.map_nil, go_sem]
      rcases g3 (rowsO R) with ⟨rfl, rfl⟩ | ⟨q, g, rq, rfl, hq⟩
      · refine ALoop.unfold ?_
        (try simp only [wpx_of k35_0.eq_1, wpx_of k35_2.eq_1, wpx_of k35_3.eq_1, wpx_of k35_4.eq_1, wpx_of k35_6.eq_1, wpx_of k35_7.eq_1, hw, g1, hkn, wpx_of b35_1.eq_1, nlt_iff, n0_le, rowsO, g2, hl1, putRow, List.set_set, rows_set, List.length_map, List.length_set, go_sem]); repeat' ((first
    | refine And.intro (Or.inr rfl) ?_
    | ((first | refine cB ?_ ?_ | refine gT ?_ ?_ | refine gF ?_ ?_ | refine dT ?_ ?_ | refine dF ?_ ?_) <;> intro hc)
    | refine refRow_Fall_spec hra (fun b => ?_)) <;> try simp only [*, wpx_of k35_0.eq_1, wpx_of k35_2.eq_1, wpx_of k35_3.eq_1, wpx_of k35_4.eq_1, wpx_of k35_6.eq_1, wpx_of k35_7.eq_1, hw, g1, hkn, wpx_of b35_1.eq_1, nlt_iff, n0_le, rowsO, g2, hl1, putRow, List.set_set, rows_set, List.length_map, List.length_set, go_sem])
        (refine ALoop.keep [4, 0, 1] ?_; simp only [List.map_cons, List.map_nil, go_sem]; refine next () hkn trivial)
      · refine ALoop.acc (α := Unit) (fun j _ => [(5, .bool (hasI (l.take j) (k : Int))), (6, .int .i64 (j : Int))]) (fun j _ => _) (fun _ _ => True) l.length ?_ (a0 := ()) trivial
        intro j _ hj _ next2
        refine ALoop.unfold ?_
        have hw2 := wrap_succ (k := j) (by omega)
        by_cases hjl : j < l.length
        · have hg := ints_get hjl
          have ht := hasI_take (l := l) (v := (k : Int)) hjl
          cases hb : hasI (l.take j) (k : Int) with
          | true =>
            rw [hb, Bool.true_or] at ht
            rw [ht] at next2
            clear ht
            (try simp only [wpx_of k35_0.eq_1, wpx_of k35_2.eq_1, wpx_of k35_3.eq_1, wpx_of k35_4.eq_1, wpx_of k35_6.eq_1, wpx_of k35_7.eq_1, hq, hg, hw2, hjl, wpx_of b35_1.eq_1, nlt_iff, n0_le, go_sem]); repeat' ((first
    | refine And.intro (Or.inr rfl) ?_
    | ((first | refine cB ?_ ?_ | refine gT ?_ ?_ | refine gF ?_ ?_ | refine dT ?_ ?_ | refine dF ?_ ?_) <;> intro hc)) <;> try simp only [*, wpx_of k35_0.eq_1, wpx_of k35_2.eq_1, wpx_of k35_3.eq_1, wpx_of k35_4.eq_1, wpx_of k35_6.eq_1, wpx_of k35_7.eq_1, hq, hg, hw2, hjl, wpx_of b35_1.eq_1, nlt_iff, n0_le, go_sem])
            (refine ALoop.keep [5, 6, 0, 1, 4] ?_; simp only [List.map_cons, List.map_nil, go_sem]; refine next2 () hjl trivial)
          | false =>
            rw [hb, Bool.false_or] at ht
            rw [ht] at next2
            clear ht
            (try simp only [wpx_of k35_0.eq_1, wpx_of k35_2.eq_1, wpx_of k35_3.eq_1, wpx_of k35_4.eq_1, wpx_of k35_6.eq_1, wpx_of k35_7.eq_1, hq, hg, hw2, hjl, wpx_of b35_1.eq_1, nlt_iff, n0_le, go_sem]); repeat' ((first
    | refine And.intro (Or.inr rfl) ?_
    | ((first | refine cB ?_ ?_ | refine gT ?_ ?_ | refine gF ?_ ?_ | refine dT ?_ ?_ | refine dF ?_ ?_) <;> intro hc)) <;> try simp only [*, wpx_of k35_0.eq_1, wpx_of k35_2.eq_1, wpx_of k35_3.eq_1, wpx_of k35_4.eq_1, wpx_of k35_6.eq_1, wpx_of k35_7.eq_1, hq, hg, hw2, hjl, wpx_of b35_1.eq_1, nlt_iff, n0_le, go_sem])
            (refine ALoop.keep [5, 6, 0, 1, 4] ?_; simp only [List.map_cons, List.map_nil, go_sem]; refine next2 () hjl trivial)
        · have hj : j = l.length := by omega
          subst hj
          rw [List.take_length]
          (try simp only [wpx_of k35_0.eq_1, wpx_of k35_2.eq_1, wpx_of k35_3.eq_1, wpx_of k35_4.eq_1, wpx_of k35_6.eq_1, wpx_of k35_7.eq_1, hw, hw2, g1, hkn, hjl, wpx_of b35_1.eq_1, nlt_iff, n0_le, rowsO, g2, hl1, putRow, List.set_set, rows_set, List.length_map, List.length_set, go_sem]); repeat' ((first
    | refine And.intro (Or.inr rfl) ?_
    | ((first | refine cB ?_ ?_ | refine gT ?_ ?_ | refine gF ?_ ?_ | refine dT ?_ ?_ | refine dF ?_ ?_) <;> intro hc)
    | refine refRow_Fall_spec hra (fun b => ?_)) <;> try simp only [*, wpx_of k35_0.eq_1, wpx_of k35_2.eq_1, wpx_of k35_3.eq_1, wpx_of k35_4.eq_1, wpx_of k35_6.eq_1, wpx_of k35_7.eq_1, hw, hw2, g1, hkn, hjl, wpx_of b35_1.eq_1, nlt_iff, n0_le, rowsO, g2, hl1, putRow, List.set_set, rows_set, List.length_map, List.length_set, go_sem])
          (refine ALoop.keep [4, 0, 1] ?_; simp only [List.map_cons, List.map_nil, go_sem]; refine next () hkn trivial)
    · have hk : k = n := by omega
      subst hk
      have e : memH H oM oR k f kv (crashM m l) = (H.set oR (rowsO (turnedR (fallG l) m.rows k))).set oM (memG oR k f kv { m with rows := fallR l m.rows, off := true, fuse := 0 }) := by
        rw [memH, List.set_comm _ _ hne, crashM, hoff, cond_false, fallR, h.len]
      rw [e] at hK
      (try simp only [wpx_of k35_0.eq_1, wpx_of k35_2.eq_1, wpx_of k35_3.eq_1, wpx_of k35_4.eq_1, wpx_of k35_6.eq_1, wpx_of k35_7.eq_1, hw, g1, hkn, wpx_of b35_5.eq_1, nlt_iff, n0_le, rowsO, g4, List.set_set, go_sem]); repeat' ((first
    | refine And.intro (Or.inr rfl) ?_
    | ((first | refine cB ?_ ?_ | refine gT ?_ ?_ | refine gF ?_ ?_ | refine dT ?_ ?_ | refine dF ?_ ?_) <;> intro hc)) <;> try simp only [*, wpx_of k35_0.eq_1, wpx_of k35_2.eq_1, wpx_of k35_3.eq_1, wpx_of k35_4.eq_1, wpx_of k35_6.eq_1, wpx_of k35_7.eq_1, hw, g1, hkn, wpx_of b35_5.eq_1, nlt_iff, n0_le, rowsO, g4, List.set_set, go_sem])
      exact hK

theorem refG_burn_spec (h : MemG H oM oR n f kv m) (hc : m.c + 1 ≤ 1000000) (hK : K (.bool (burnM m).2) (memH H oM oR n f kv (burnM m).1)) : ACalls Try.prog 50 [.ptr oM 1 0 0] H K := by
  have k1 : Keeps H oM (.arr 5 [[.slice oR n 0 n f, .bool m.off, .int .i64 m.c, .int .i64 m.fuse, kv]] false) := Keeps.of h.mem
  have k0 := k1.at
  have ks := k1.self0
  have hc0 := h.c0
  have hf0 := h.f0
  have hf1 := h.f1
  have hwc : IntKind.wrap .i64 (m.c + 1) = m.c + 1 := w64' (by omega) (by omega)
  by_cases hf : 0 < m.fuse
  · have hwf : IntKind.wrap .i64 (m.fuse - 1) = m.fuse - 1 := w64' (by omega) (by omega)
    by_cases h1 : m.fuse = 1
    · have hw0 : IntKind.wrap .i64 (m.fuse - 1) = 0 := by rw [hwf]; omega
      have e : burnM m = (crashM { m with fuse := 0 } m.keep, false) := by unfold burnM; rw [if_pos hf, if_pos h1]
      have h2 : MemG (H.set oM (memG oR n f kv { m with fuse := 0 })) oM oR n f kv { m with fuse := 0 } := by
        have := h.put (m' := { m with fuse := 0 }) h.len h.ok h.c0 h.c1 (by simp) (by simp) rfl
        rwa [memH_rows (m' := { m with fuse := 0 }) h rfl] at this
      have hk2 : KeepAt (H.set oM (memG oR n f kv { m with fuse := 0 })) kv m.keep := h2.keep
      have hkl := h.kl
      simp only [e] at hK
      rw [← memH_setM h.ne (x := memG oR n f kv { m with fuse := 0 })] at hK
      clear hwf h1 hc0 hf0 hf1
      refine ACalls.into ok50 (Nat.le_of_ble_eq_true rfl) ?_; (try simp only [c50, wpx_of k50_0.eq_1, wpx_of k50_1.eq_1, wpx_of k50_2.eq_1, wpx_of k50_3.eq_1, wpx_of k50_4.eq_1, k0, ks, hf, hw0, List.set_set, go_sem]); repeat' ((first
    | refine And.intro (Or.inr rfl) ?_
    | ((first | refine cB ?_ ?_ | refine gT ?_ ?_ | refine gF ?_ ?_ | refine dT ?_ ?_ | refine dF ?_ ?_) <;> intro hc)
    | refine refG_Crash_spec h2 hk2 hkl ?_) <;> try simp only [*, wpx_of k50_0.eq_1, wpx_of k50_1.eq_1, wpx_of k50_2.eq_1, wpx_of k50_3.eq_1, wpx_of k50_4.eq_1, k0, ks, hf, hw0, List.set_set, go_sem])
      all_goals exact hK
    · have e : burnM m = ({ m with fuse := m.fuse - 1, c := m.c + 1 }, true) := by unfold burnM; rw [if_pos hf, if_neg h1]
      have h0 : (m.fuse - 1 = 0) = False := eq_false (by omega)
      simp only [e] at hK
      rw [memH_rows (m' := { m with fuse := m.fuse - 1, c := m.c + 1 }) h rfl] at hK
      clear h1 hc0 hf0 hf1
      refine ACalls.into ok50 (Nat.le_of_ble_eq_true rfl) ?_; (try simp only [c50, wpx_of k50_0.eq_1, wpx_of k50_1.eq_1, wpx_of k50_2.eq_1, wpx_of k50_3.eq_1, wpx_of k50_4.eq_1, k0, ks, hf, hwf, h0, hwc, List.set_set, go_sem]); repeat' ((first
    | refine And.intro (Or.inr rfl) ?_
    | ((first | refine cB ?_ ?_ | refine gT ?_ ?_ | refine gF ?_ ?_ | refine dT ?_ ?_ | refine dF ?_ ?_) <;> intro hc)) <;> try simp only [*, wpx_of k50_0.eq_1, wpx_of k50_1.eq_1, wpx_of k50_2.eq_1, wpx_of k50_3.eq_1, wpx_of k50_4.eq_1, k0, ks, hf, hwf, h0, hwc, List.set_set, go_sem])
      all_goals exact hK
  · have e : burnM m = ({ m with c := m.c + 1 }, true) := by unfold burnM; rw [if_neg hf]
    simp only [e] at hK
    rw [memH_rows (m' := { m with c := m.c + 1 }) h rfl] at hK
    refine ACalls.into ok50 (Nat.le_of_ble_eq_true rfl) ?_; (try simp only [c50, wpx_of k50_0.eq_1, wpx_of k50_1.eq_1, wpx_of k50_2.eq_1, wpx_of k50_3.eq_1, wpx_of k50_4.eq_1, k0, ks, hf, hwc, List.set_set, go_sem]); repeat' ((first
    | refine And.intro (Or.inr rfl) ?_
    | ((first | refine cB ?_ ?_ | refine gT ?_ ?_ | refine gF ?_ ?_ | refine dT ?_ ?_ | refine dF ?_ ?_) <;> intro hc)) <;> try simp only [*, wpx_of k50_0.eq_1, wpx_of k50_1.eq_1, wpx_of k50_2.eq_1, wpx_of k50_3.eq_1, wpx_of k50_4.eq_1, k0, ks, hf, hwc, List.set_set, go_sem])
    all_goals exact hK
theorem refG_Load_spec {at_ : Int} (h : MemG H oM oR n f kv m) (hK : K (.tup [.int .u64 (loadM m at_).1, .int .i64 (loadM m at_).2]) H) : ACalls Try.prog 39 [.ptr oM 1 0 0, .int .i64 at_] H K := by
  have k0 := h.cell
  have k2 := h.cells
  have hl := h.mlen
  have hn8 : IntKind.wrap .i64 (8 * (n : Int)) = (n : Int) * 8 := by rw [Int.mul_comm]; exact h.w8
  have hmay : mayN m.off at_ ((n : Int) * 8) = mayW m at_ := by unfold mayW; rw [h.len]
  by_cases he : mayW m at_ = 0
  · obtain ⟨hd, hr, hi⟩ := h.place he
    have hil : ((atRow at_ : Nat) : Int) < (n : Int) := by omega
    have hq : 0 ≤ at_ % 8 ∧ at_ % 8 < 8 := by omega
    unfold loadM at hK
    rw [if_pos he] at hK
    rw [he] at hmay
    clear he
    have hg : (m.rows.map RowM.cells)[atRow at_]? = some (row m.rows (atRow at_)).cells := (h.rowAt hi).get
    have hro := (h.rowAt hi).ok
    generalize row m.rows (atRow at_) = r at *
    generalize at_ % 8 = q at *
    obtain ⟨la, nw, out, sent⟩ := r
    obtain ⟨a0, a1, a2, a3, a4, a5, a6, a7, rfl⟩ := eight hro.la
    obtain ⟨b0, b1, b2, b3, b4, b5, b6, b7, rfl⟩ := eight hro.nw
    simp only [RowM.cells, u64s, List.map_cons, List.map_nil, List.cons_append, List.nil_append] at hg
    rcases at_cases hq with rfl | rfl | rfl | rfl | rfl | rfl | rfl | rfl
    all_goals
      refine ACalls.into ok39 (Nat.le_of_ble_eq_true rfl) ?_; (try simp only [c39, wpx_of k39_0.eq_1, wpx_of k39_1.eq_1, wpx_of k39_2.eq_1, wpx_of k39_3.eq_1, k0, k2, hl, hn8, hmay, hd, hr, hil, hi, hg, n0_le, Int.toNat_natCast, nlt_iff, go_sem]); repeat' ((first
    | refine And.intro (Or.inr rfl) ?_
    | ((first | refine cB ?_ ?_ | refine gT ?_ ?_ | refine gF ?_ ?_ | refine dT ?_ ?_ | refine dF ?_ ?_) <;> intro hc)
    | refine refG_may_spec h.mem ?_) <;> try simp only [*, wpx_of k39_0.eq_1, wpx_of k39_1.eq_1, wpx_of k39_2.eq_1, wpx_of k39_3.eq_1, k0, k2, hl, hn8, hmay, hd, hr, hil, hi, hg, n0_le, Int.toNat_natCast, nlt_iff, go_sem])
      all_goals exact hK
  · unfold loadM at hK
    rw [if_neg he] at hK
    refine ACalls.into ok39 (Nat.le_of_ble_eq_true rfl) ?_; (try simp only [c39, wpx_of k39_0.eq_1, wpx_of k39_1.eq_1, wpx_of k39_2.eq_1, wpx_of k39_3.eq_1, k0, k2, hl, hn8, hmay, he, n0_le, Int.toNat_natCast, nlt_iff, go_sem]); repeat' ((first
    | refine And.intro (Or.inr rfl) ?_
    | ((first | refine cB ?_ ?_ | refine gT ?_ ?_ | refine gF ?_ ?_ | refine dT ?_ ?_ | refine dF ?_ ?_) <;> intro hc)
    | refine refG_may_spec h.mem ?_) <;> try simp only [*, wpx_of k39_0.eq_1, wpx_of k39_1.eq_1, wpx_of k39_2.eq_1, wpx_of k39_3.eq_1, k0, k2, hl, hn8, hmay, he, n0_le, Int.toNat_natCast, nlt_iff, go_sem])
    all_goals exact hK

theorem refG_Store_spec {at_ v : Int} (h : MemG H oM oR n f kv m) (hc : m.c + 1 ≤ 1000000) (hK : K (.int .i64 (storeM m at_ v).2) (memH H oM oR n f kv (storeM m at_ v).1)) : ACalls Try.prog 29 [.ptr oM 1 0 0, .int .i64 at_, .int .u64 v] H K := by
  have k0 := h.cell
  have hn8 : IntKind.wrap .i64 (8 * (n : Int)) = (n : Int) * 8 := by rw [Int.mul_comm]; exact h.w8
  have hmay : mayN m.off at_ ((n : Int) * 8) = mayW m at_ := by unfold mayW; rw [h.len]
  by_cases he : mayW m at_ = 0
  · obtain ⟨hd, hr, hi⟩ := h.place he
    have hil : ((atRow at_ : Nat) : Int) < (n : Int) := by omega
    have hq8 : 0 ≤ at_ % 8 ∧ at_ % 8 < 8 := by omega
    have h2 := h.burn hc
    have m0 := h2.cell
    have m2 := h2.cells
    have hl := h2.mlen
    have hr0 := h2.rowAt hi
    unfold storeM doneM at hK
    rw [if_pos he] at hK
    rw [he] at hmay
    clear he
    cases hb : (burnM m).2 with
    | false =>
      simp only [hb, cond_false] at hK
      refine ACalls.into ok29 (Nat.le_of_ble_eq_true rfl) ?_; (try simp only [c29, wpx_of k29_0.eq_1, wpx_of k29_1.eq_1, wpx_of k29_2.eq_1, wpx_of k29_3.eq_1, wpx_of k29_4.eq_1, wpx_of k29_5.eq_1, k0, hn8, hmay, hb, n0_le, go_sem]); repeat' ((first
    | refine And.intro (Or.inr rfl) ?_
    | ((first | refine cB ?_ ?_ | refine gT ?_ ?_ | refine gF ?_ ?_ | refine dT ?_ ?_ | refine dF ?_ ?_) <;> intro hc)
    | refine refG_may_spec h.mem ?_
    | refine refG_burn_spec h hc ?_) <;> try simp only [*, wpx_of k29_0.eq_1, wpx_of k29_1.eq_1, wpx_of k29_2.eq_1, wpx_of k29_3.eq_1, wpx_of k29_4.eq_1, wpx_of k29_5.eq_1, k0, hn8, hmay, hb, n0_le, go_sem])
      all_goals exact hK
    | true =>
      simp only [hb, cond_true] at hK
      refine ACalls.into ok29 (Nat.le_of_ble_eq_true rfl) ?_; (try simp only [c29, wpx_of k29_0.eq_1, wpx_of k29_1.eq_1, wpx_of k29_2.eq_1, wpx_of k29_3.eq_1, wpx_of k29_4.eq_1, wpx_of k29_5.eq_1, k0, m0, m2, hl, hn8, hmay, hd, hr, hil, hi, hb, n0_le, Int.toNat_natCast, nlt_iff, go_sem]); repeat' ((first
    | refine And.intro (Or.inr rfl) ?_
    | ((first | refine cB ?_ ?_ | refine gT ?_ ?_ | refine gF ?_ ?_ | refine dT ?_ ?_ | refine dF ?_ ?_) <;> intro hc)
    | refine refG_may_spec h.mem ?_
    | refine refG_burn_spec h hc ?_
    | refine refRow_Store_spec hr0 hq8 ?_) <;> try simp only [*, wpx_of k29_0.eq_1, wpx_of k29_1.eq_1, wpx_of k29_2.eq_1, wpx_of k29_3.eq_1, wpx_of k29_4.eq_1, wpx_of k29_5.eq_1, k0, m0, m2, hl, hn8, hmay, hd, hr, hil, hi, hb, n0_le, Int.toNat_natCast, nlt_iff, go_sem])
      all_goals
        rw [putRow_memH]
        exact hK
  · unfold storeM doneM at hK
    rw [if_neg he, memH_self h] at hK
    refine ACalls.into ok29 (Nat.le_of_ble_eq_true rfl) ?_; (try simp only [c29, wpx_of k29_0.eq_1, wpx_of k29_1.eq_1, wpx_of k29_2.eq_1, wpx_of k29_3.eq_1, wpx_of k29_4.eq_1, wpx_of k29_5.eq_1, k0, hn8, hmay, he, n0_le, go_sem]); repeat' ((first
    | refine And.intro (Or.inr rfl) ?_
    | ((first | refine cB ?_ ?_ | refine gT ?_ ?_ | refine gF ?_ ?_ | refine dT ?_ ?_ | refine dF ?_ ?_) <;> intro hc)
    | refine refG_may_spec h.mem ?_) <;> try simp only [*, wpx_of k29_0.eq_1, wpx_of k29_1.eq_1, wpx_of k29_2.eq_1, wpx_of k29_3.eq_1, wpx_of k29_4.eq_1, wpx_of k29_5.eq_1, k0, hn8, hmay, he, n0_le, go_sem])
    all_goals exact hK

theorem refG_Flush_spec {r : Int} (h : MemG H oM oR n f kv m) (hc : m.c + 1 ≤ 1000000) (hK : K (.int .i64 (flushM m r).2) (memH H oM oR n f kv (flushM m r).1)) : ACalls Try.prog 31 [.ptr oM 1 0 0, .int .i64 r] H K := by
  have k0 := h.cell
  have hmay : mayN m.off r (n : Int) = mayR m r := by unfold mayR; rw [h.len]
  by_cases he : mayR m r = 0
  · have hr := (mayN_zero.1 he).2
    rw [h.len] at hr
    obtain ⟨i, rfl⟩ : ∃ i : Nat, r = (i : Int) := ⟨r.toNat, by omega⟩
    have hi : i < n := by omega
    have h2 := h.burn hc
    have m0 := h2.cell
    have m2 := h2.cells
    have hl := h2.mlen
    have hr0 := h2.rowAt hi
    unfold flushM doneM flushG at hK
    rw [if_pos he] at hK
    rw [he] at hmay
    clear he hr
    cases hb : (burnM m).2 with
    | false =>
      simp only [hb, cond_false] at hK
      refine ACalls.into ok31 (Nat.le_of_ble_eq_true rfl) ?_; (try simp only [c31, wpx_of k31_0.eq_1, wpx_of k31_1.eq_1, wpx_of k31_2.eq_1, wpx_of k31_3.eq_1, wpx_of k31_4.eq_1, wpx_of k31_5.eq_1, k0, hmay, hb, n0_le, go_sem]); repeat' ((first
    | refine And.intro (Or.inr rfl) ?_
    | ((first | refine cB ?_ ?_ | refine gT ?_ ?_ | refine gF ?_ ?_ | refine dT ?_ ?_ | refine dF ?_ ?_) <;> intro hc)
    | refine refG_may_spec h.mem ?_
    | refine refG_burn_spec h hc ?_) <;> try simp only [*, wpx_of k31_0.eq_1, wpx_of k31_1.eq_1, wpx_of k31_2.eq_1, wpx_of k31_3.eq_1, wpx_of k31_4.eq_1, wpx_of k31_5.eq_1, k0, hmay, hb, n0_le, go_sem])
      all_goals exact hK
    | true =>
      simp only [hb, cond_true, Int.toNat_natCast] at hK
      refine ACalls.into ok31 (Nat.le_of_ble_eq_true rfl) ?_; (try simp only [c31, wpx_of k31_0.eq_1, wpx_of k31_1.eq_1, wpx_of k31_2.eq_1, wpx_of k31_3.eq_1, wpx_of k31_4.eq_1, wpx_of k31_5.eq_1, k0, m0, m2, hl, hmay, hi, hb, n0_le, Int.toNat_natCast, nlt_iff, go_sem]); repeat' ((first
    | refine And.intro (Or.inr rfl) ?_
    | ((first | refine cB ?_ ?_ | refine gT ?_ ?_ | refine gF ?_ ?_ | refine dT ?_ ?_ | refine dF ?_ ?_) <;> intro hc)
    | refine refG_may_spec h.mem ?_
    | refine refG_burn_spec h hc ?_
    | refine refRow_Flush_spec hr0 ?_) <;> try simp only [*, wpx_of k31_0.eq_1, wpx_of k31_1.eq_1, wpx_of k31_2.eq_1, wpx_of k31_3.eq_1, wpx_of k31_4.eq_1, wpx_of k31_5.eq_1, k0, m0, m2, hl, hmay, hi, hb, n0_le, Int.toNat_natCast, nlt_iff, go_sem])
      all_goals
        rw [putRow_memH]
        exact hK
  · unfold flushM doneM at hK
    rw [if_neg he, memH_self h] at hK
    refine ACalls.into ok31 (Nat.le_of_ble_eq_true rfl) ?_; (try simp only [c31, wpx_of k31_0.eq_1, wpx_of k31_1.eq_1, wpx_of k31_2.eq_1, wpx_of k31_3.eq_1, wpx_of k31_4.eq_1, wpx_of k31_5.eq_1, k0, hmay, he, n0_le, go_sem]); repeat' ((first
    | refine And.intro (Or.inr rfl) ?_
    | ((first | refine cB ?_ ?_ | refine gT ?_ ?_ | refine gF ?_ ?_ | refine dT ?_ ?_ | refine dF ?_ ?_) <;> intro hc)
    | refine refG_may_spec h.mem ?_) <;> try simp only [*, wpx_of k31_0.eq_1, wpx_of k31_1.eq_1, wpx_of k31_2.eq_1, wpx_of k31_3.eq_1, wpx_of k31_4.eq_1, wpx_of k31_5.eq_1, k0, hmay, he, n0_le, go_sem])
    all_goals exact hK

theorem refG_Evict_spec {r : Int} (h : MemG H oM oR n f kv m) (hK : K (.int .i64 (evictM m r).2) (memH H oM oR n f kv (evictM m r).1)) : ACalls Try.prog 34 [.ptr oM 1 0 0, .int .i64 r] H K := by
  have k0 := h.cell
  have hmay : mayN m.off r (n : Int) = mayR m r := by unfold mayR; rw [h.len]
  by_cases he : mayR m r = 0
  · have hr := (mayN_zero.1 he).2
    rw [h.len] at hr
    obtain ⟨i, rfl⟩ : ∃ i : Nat, r = (i : Int) := ⟨r.toNat, by omega⟩
    have hi : i < n := by omega
    have m2 := h.cells
    have hl := h.mlen
    have hr0 := h.rowAt hi
    unfold evictM evictG at hK
    rw [if_pos he] at hK
    rw [he] at hmay
    clear he hr
    simp only [Int.toNat_natCast] at hK
    refine ACalls.into ok34 (Nat.le_of_ble_eq_true rfl) ?_; (try simp only [c34, wpx_of k34_0.eq_1, wpx_of k34_1.eq_1, wpx_of k34_2.eq_1, wpx_of k34_3.eq_1, k0, m2, hl, hmay, hi, n0_le, Int.toNat_natCast, nlt_iff, go_sem]); repeat' ((first
    | refine And.intro (Or.inr rfl) ?_
    | ((first | refine cB ?_ ?_ | refine gT ?_ ?_ | refine gF ?_ ?_ | refine dT ?_ ?_ | refine dF ?_ ?_) <;> intro hc)
    | refine refG_may_spec h.mem ?_
    | refine refRow_Evict_spec hr0 ?_) <;> try simp only [*, wpx_of k34_0.eq_1, wpx_of k34_1.eq_1, wpx_of k34_2.eq_1, wpx_of k34_3.eq_1, k0, m2, hl, hmay, hi, n0_le, Int.toNat_natCast, nlt_iff, go_sem])
    all_goals
      rw [putRow_self h]
      exact hK
  · unfold evictM at hK
    rw [if_neg he, memH_self h] at hK
    refine ACalls.into ok34 (Nat.le_of_ble_eq_true rfl) ?_; (try simp only [c34, wpx_of k34_0.eq_1, wpx_of k34_1.eq_1, wpx_of k34_2.eq_1, wpx_of k34_3.eq_1, k0, hmay, he, n0_le, go_sem]); repeat' ((first
    | refine And.intro (Or.inr rfl) ?_
    | ((first | refine cB ?_ ?_ | refine gT ?_ ?_ | refine gF ?_ ?_ | refine dT ?_ ?_ | refine dF ?_ ?_) <;> intro hc)
    | refine refG_may_spec h.mem ?_) <;> try simp only [*, wpx_of k34_0.eq_1, wpx_of k34_1.eq_1, wpx_of k34_2.eq_1, wpx_of k34_3.eq_1, k0, hmay, he, n0_le, go_sem])
    all_goals exact hK

theorem refG_Fence_spec (h : MemG H oM oR n f kv m) (hc : m.c + 1 ≤ 1000000) (hK : K (.int .i64 (fenceM m).2) (memH H oM oR n f kv (fenceM m).1)) : ACalls Try.prog 32 [.ptr oM 1 0 0] H K := by
  have k0 := h.cell
  by_cases he : mayN m.off 0 1 = 0
  · have hoff := (mayN_zero.1 he).1
    rw [hoff] at k0
    have h2 := h.burn hc
    have m0 := h2.cell
    unfold fenceM doneM at hK
    rw [if_pos he] at hK
    cases hb : (burnM m).2 with
    | false =>
      simp only [hb, cond_false] at hK
      refine ACalls.into ok32 (Nat.le_of_ble_eq_true rfl) ?_; (try simp only [c32, wpx_of k32_0.eq_1, wpx_of k32_1.eq_1, wpx_of k32_3.eq_1, wpx_of k32_4.eq_1, k0, hb, n0_le, go_sem]); repeat' ((first
    | refine And.intro (Or.inr rfl) ?_
    | ((first | refine cB ?_ ?_ | refine gT ?_ ?_ | refine gF ?_ ?_ | refine dT ?_ ?_ | refine dF ?_ ?_) <;> intro hc)
    | refine refG_burn_spec h hc ?_) <;> try simp only [*, wpx_of k32_0.eq_1, wpx_of k32_1.eq_1, wpx_of k32_3.eq_1, wpx_of k32_4.eq_1, k0, hb, n0_le, go_sem])
      all_goals exact hK
    | true =>
      simp only [hb, cond_true] at hK
      refine ACalls.into ok32 (Nat.le_of_ble_eq_true rfl) ?_; (try simp only [c32, wpx_of k32_0.eq_1, wpx_of k32_1.eq_1, wpx_of k32_3.eq_1, wpx_of k32_4.eq_1, k0, hb, n0_le, go_sem]); repeat' ((first
    | refine And.intro (Or.inr rfl) ?_
    | ((first | refine cB ?_ ?_ | refine gT ?_ ?_ | refine gF ?_ ?_ | refine dT ?_ ?_ | refine dF ?_ ?_) <;> intro hc)
    | refine refG_burn_spec h hc ?_) <;> try simp only [*, wpx_of k32_0.eq_1, wpx_of k32_1.eq_1, wpx_of k32_3.eq_1, wpx_of k32_4.eq_1, k0, hb, n0_le, go_sem])
      refine ALoop.keep [3, 0] ?_; simp only [List.map_cons, List.map_nil, go_sem]
      clear k0 hb
      have eH : ∀ rows, memH H oM oR n f kv { (burnM m).1 with rows := rows } = (memH H oM oR n f kv (burnM m).1).set oR (rowsO rows) := fun rows => by unfold memH; rw [List.set_set]; rfl
      rw [eH] at hK
      generalize memH H oM oR n f kv (burnM m).1 = W at *
      generalize (burnM m).1 = b at *
      have hne' := Ne.symm h2.ne
      refine ALoop.heap (H' := W.set oR (rowsO (turnedR fenceG b.rows 0))) (by rw [turnedR_zero]; exact (set_same h2.robj).symm) ?_
      refine ALoop.acc (α := Unit) (fun k _ => [(3, .int .i64 (k : Int))]) (fun k _ => W.set oR (rowsO (turnedR fenceG b.rows k))) (fun _ _ => True) n ?_ (a0 := ()) trivial
      intro k _ hk _ next
      refine ALoop.unfold ?_
      have hle := h.le
      have hw := wrap_succ (k := k) (by omega)
      have g1 : ∀ x, (W.set oR x)[oM]? = some (.arr 5 [[.slice oR n 0 n f, .bool b.off, .int .i64 b.c, .int .i64 b.fuse, kv]] false) := fun x => by rw [List.getElem?_set_ne hne']; exact m0
      have g2 : ∀ x, (W.set oR x)[oR]? = some x := fun x => List.getElem?_set_self (List.getElem?_eq_some_iff.1 h2.robj).1
      have hl1 : ((turnedR fenceG b.rows k).map RowM.cells).length = n := by rw [List.length_map, turnedR_len, h2.len]
      by_cases hkn : k < n
      · have hkr : k < b.rows.length := by rw [h2.len]; exact hkn
        have hra : RowAt (W.set oR (rowsO (turnedR fenceG b.rows k))) oR n k ((turnedR fenceG b.rows k).map RowM.cells) (row (turnedR fenceG b.rows k) k) :=
          ⟨g2 _, hl1, by rw [List.getElem?_map, row_some (by rw [turnedR_len]; exact hkr)]; rfl, row_ok (turnedR_ok (fun i r h => fence_ok h) h2.ok k) (by rw [turnedR_len]; exact hkr)⟩
        (try simp only [wpx_of k32_0.eq_1, wpx_of k32_1.eq_1, wpx_of k32_3.eq_1, wpx_of k32_4.eq_1, hw, g1, hkn, wpx_of b32_2.eq_1, nlt_iff, n0_le, rowsO, g2, hl1, putRow, List.set_set, rows_set, List.length_map, turnedR_len, h2.len, List.length_set, go_sem]); repeat' ((first
    | refine And.intro (Or.inr rfl) ?_
    | ((first | refine cB ?_ ?_ | refine gT ?_ ?_ | refine gF ?_ ?_ | refine dT ?_ ?_ | refine dF ?_ ?_) <;> intro hc)
    | refine refRow_Fence_spec hra ?_) <;> try simp only [*, wpx_of k32_0.eq_1, wpx_of k32_1.eq_1, wpx_of k32_3.eq_1, wpx_of k32_4.eq_1, hw, g1, hkn, wpx_of b32_2.eq_1, nlt_iff, n0_le, rowsO, g2, hl1, putRow, List.set_set, rows_set, List.length_map, turnedR_len, h2.len, List.length_set, go_sem])
        refine ALoop.heap (H' := W.set oR (rowsO (turnedR fenceG b.rows (k + 1)))) (by rw [turnedR_succ hkr]; rfl) ?_
        (refine ALoop.keep [3, 0] ?_; simp only [List.map_cons, List.map_nil, go_sem]; refine next () hkn trivial)
      · have hk : k = n := by omega
        have hf : fenceR b.rows = turnedR fenceG b.rows k := by rw [fenceR, h2.len, hk]
        rw [hf] at hK
        (try simp only [wpx_of k32_0.eq_1, wpx_of k32_1.eq_1, wpx_of k32_3.eq_1, wpx_of k32_4.eq_1, hw, g1, hkn, wpx_of b32_2.eq_1, nlt_iff, n0_le, rowsO, go_sem]); repeat' ((first
    | refine And.intro (Or.inr rfl) ?_
    | ((first | refine cB ?_ ?_ | refine gT ?_ ?_ | refine gF ?_ ?_ | refine dT ?_ ?_ | refine dF ?_ ?_) <;> intro hc)) <;> try simp only [*, wpx_of k32_0.eq_1, wpx_of k32_1.eq_1, wpx_of k32_3.eq_1, wpx_of k32_4.eq_1, hw, g1, hkn, wpx_of b32_2.eq_1, nlt_iff, n0_le, rowsO, go_sem])
        exact hK
  · have hoff : m.off = true := by
      cases ho : m.off with
      | true => rfl
      | false => rw [ho] at he; exact absurd rfl he
    unfold fenceM doneM at hK
    rw [if_neg he, memH_self h, hoff] at hK
    rw [hoff] at k0
    refine ACalls.into ok32 (Nat.le_of_ble_eq_true rfl) ?_; (try simp only [c32, wpx_of k32_0.eq_1, wpx_of k32_1.eq_1, wpx_of k32_3.eq_1, wpx_of k32_4.eq_1, k0, n0_le, go_sem]); repeat' ((first
    | refine And.intro (Or.inr rfl) ?_
    | ((first | refine cB ?_ ?_ | refine gT ?_ ?_ | refine gF ?_ ?_ | refine dT ?_ ?_ | refine dF ?_ ?_) <;> intro hc)) <;> try simp only [*, wpx_of k32_0.eq_1, wpx_of k32_1.eq_1, wpx_of k32_3.eq_1, wpx_of k32_4.eq_1, k0, n0_le, go_sem])
    all_goals exact hK

theorem refG_Swap_spec {at_ old v : Int} (h : MemG H oM oR n f kv m) (hc : m.c + 1 ≤ 1000000) (hK : K (.tup [.bool (swapM m at_ old v).2.1, .int .i64 (swapM m at_ old v).2.2]) (memH H oM oR n f kv (swapM m at_ old v).1)) :
    ACalls Try.prog 30 [.ptr oM 1 0 0, .int .i64 at_, .int .u64 old, .int .u64 v] H K := by
  unfold swapM at hK
  by_cases h0 : (loadM m at_).2 = 0
  · by_cases h1 : (loadM m at_).1 = old
    · rw [if_pos ⟨h0, h1⟩] at hK
      refine ACalls.into ok30 (Nat.le_of_ble_eq_true rfl) ?_; (try simp only [c30, wpx_of k30_0.eq_1, wpx_of k30_1.eq_1, wpx_of k30_2.eq_1, wpx_of k30_3.eq_1, wpx_of k30_4.eq_1, h0, h1, go_sem]); repeat' ((first
    | refine And.intro (Or.inr rfl) ?_
    | ((first | refine cB ?_ ?_ | refine gT ?_ ?_ | refine gF ?_ ?_ | refine dT ?_ ?_ | refine dF ?_ ?_) <;> intro hc)
    | refine refG_Load_spec h ?_
    | refine refG_Store_spec h hc ?_) <;> try simp only [*, wpx_of k30_0.eq_1, wpx_of k30_1.eq_1, wpx_of k30_2.eq_1, wpx_of k30_3.eq_1, wpx_of k30_4.eq_1, h0, h1, go_sem])
      all_goals exact hK
    · rw [if_neg (fun x => h1 x.2), memH_self h, h0] at hK
      refine ACalls.into ok30 (Nat.le_of_ble_eq_true rfl) ?_; (try simp only [c30, wpx_of k30_0.eq_1, wpx_of k30_1.eq_1, wpx_of k30_2.eq_1, wpx_of k30_3.eq_1, wpx_of k30_4.eq_1, h0, h1, go_sem]); repeat' ((first
    | refine And.intro (Or.inr rfl) ?_
    | ((first | refine cB ?_ ?_ | refine gT ?_ ?_ | refine gF ?_ ?_ | refine dT ?_ ?_ | refine dF ?_ ?_) <;> intro hc)
    | refine refG_Load_spec h ?_
    | refine refG_Store_spec h hc ?_) <;> try simp only [*, wpx_of k30_0.eq_1, wpx_of k30_1.eq_1, wpx_of k30_2.eq_1, wpx_of k30_3.eq_1, wpx_of k30_4.eq_1, h0, h1, go_sem])
      all_goals exact hK
  · rw [if_neg (fun x => h0 x.1), memH_self h] at hK
    refine ACalls.into ok30 (Nat.le_of_ble_eq_true rfl) ?_; (try simp only [c30, wpx_of k30_0.eq_1, wpx_of k30_1.eq_1, wpx_of k30_2.eq_1, wpx_of k30_3.eq_1, wpx_of k30_4.eq_1, h0, go_sem]); repeat' ((first
    | refine And.intro (Or.inr rfl) ?_
    | ((first | refine cB ?_ ?_ | refine gT ?_ ?_ | refine gF ?_ ?_ | refine dT ?_ ?_ | refine dF ?_ ?_) <;> intro hc)
    | refine refG_Load_spec h ?_) <;> try simp only [*, wpx_of k30_0.eq_1, wpx_of k30_1.eq_1, wpx_of k30_2.eq_1, wpx_of k30_3.eq_1, wpx_of k30_4.eq_1, h0, go_sem])
    all_goals exact hK

end
end Go.Proofs.Ytfahkkefcdeohaa.Ax
