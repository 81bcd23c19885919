/- Memories of rows: contracts of the methods. Conditions: none. -/
import Derived.Test.YtfahkkefcdeohaaSMemZ
set_option linter.unusedSimpArgs false
set_option linter.unusedVariables false
namespace Go.Proofs.Ytfahkkefcdeohaa.Ax
open Go Go.Ax Go.Ax.M
section
variable {H : Heap} {K : AVal → Heap → Prop} {oM oR n o p : Nat} {f fl fp ro rp : Bool} {kv : AVal} {m : MemM} {l : List Int}

theorem Index_spec {v : Int} (ho : H[o]? = some (.arr 1 (ints l) ro)) (hl : l.length ≤ 1000) (hK : ∀ x : Int, decide (0 ≤ x) = hasI l v → K (.int .i64 x) H) : ACalls Try.prog 57 [.slice o l.length 0 l.length fl, .int .i64 v] H K := by
  refine ACalls.into ok57 (Nat.le_of_ble_eq_true rfl) ?_; (try simp only [c57, wpx_of k57_0.eq_1, wpx_of k57_1.eq_1, wpx_of k57_2.eq_1, wpx_of k57_4.eq_1, go_sem]); repeat' ((first
    | refine And.intro (Or.inr rfl) ?_
    | ((first | refine cB ?_ ?_ | refine gT ?_ ?_ | refine gF ?_ ?_ | refine dT ?_ ?_ | refine dF ?_ ?_) <;> intro hc)) <;> try simp only [*, wpx_of k57_0.eq_1, wpx_of k57_1.eq_1, wpx_of k57_2.eq_1, wpx_of k57_4.eq_1, go_sem])
  refine ALoop.keep [8, 0, 1, 7] ?_; simp only [List.map_cons, List.map_nil, go_sem]
  refine ALoop.cnt (fun k => hasI (l.take k) v = false) l.length (by simp [hasI]) fun k hk hI next => ?_
  refine ALoop.unfold ?_
  have hw := wrap_succ (k := k) (by omega)
  have hg : k < l.length → _ := fun h => ints_get (l := l) (k := k) h
  (try simp only [wpx_of k57_0.eq_1, wpx_of k57_1.eq_1, wpx_of k57_2.eq_1, wpx_of k57_4.eq_1, hg, hw, ho, wpx_of b57_3.eq_1, nlt_iff, n0_le, go_sem]); repeat' ((first
    | refine And.intro (Or.inr rfl) ?_
    | ((first | refine cB ?_ ?_ | refine gT ?_ ?_ | refine gF ?_ ?_ | refine dT ?_ ?_ | refine dF ?_ ?_) <;> intro hc)) <;> try simp only [*, wpx_of k57_0.eq_1, wpx_of k57_1.eq_1, wpx_of k57_2.eq_1, wpx_of k57_4.eq_1, hg, hw, ho, wpx_of b57_3.eq_1, nlt_iff, n0_le, go_sem])
  · exact hK _ (by rw [hasI_hit (by assumption) (by first | assumption | exact Eq.symm (by assumption))]; simp)
  · (refine ALoop.keep [8, 0, 1, 7] ?_; simp only [List.map_cons, List.map_nil, go_sem]; refine next (by assumption) ?_)
    rw [hasI_take (by assumption), hI]
    simp
    intro e; exact absurd e.symm (by assumption)
  · have hk : k = l.length := by omega
    subst hk
    rw [List.take_length] at hI
    exact hK _ (by rw [hI]; rfl)

theorem Contains_spec {v : Int} (ho : H[o]? = some (.arr 1 (ints l) ro)) (hl : l.length ≤ 1000) (hK : K (.bool (hasI l v)) H) : ACalls Try.prog 48 [.slice o l.length 0 l.length fl, .int .i64 v] H K := by
  refine ACalls.into ok48 (Nat.le_of_ble_eq_true rfl) ?_; (try simp only [c48, wpx_of k48_0.eq_1, go_sem]); repeat' ((first
    | refine And.intro (Or.inr rfl) ?_
    | ((first | refine cB ?_ ?_ | refine gT ?_ ?_ | refine gF ?_ ?_ | refine dT ?_ ?_ | refine dF ?_ ?_) <;> intro hc)
    | refine Index_spec ho hl (fun x hx => ?_)) <;> try simp only [*, wpx_of k48_0.eq_1, go_sem])
  all_goals
    rw [← hx] at hK
    simpa using hK

theorem nvmG_may_spec {at_ many : Int} (h : H[oM]? = some (memG oR n f kv m)) (hK : K (.int .i64 (mayN m.off at_ many)) H) : ACalls Try.prog 46 [.ptr oM 1 0 0, .int .i64 at_, .int .i64 many] H K := by
  have k1 : Keeps H oM (.arr 5 [[.slice oR n 0 n f, .bool m.off, .int .i64 m.c, .int .i64 m.fuse, kv]] false) := Keeps.of h
  have k0 := k1.at
  obtain ⟨rows, off, c, fuse, keep⟩ := m
  cases off with
  | true =>
    refine ACalls.into ok46 (Nat.le_of_ble_eq_true rfl) ?_; (try simp only [c46, wpx_of k46_0.eq_1, wpx_of k46_1.eq_1, wpx_of k46_2.eq_1, wpx_of k46_3.eq_1, k0, go_sem]); repeat' ((first
    | refine And.intro (Or.inr rfl) ?_
    | ((first | refine cB ?_ ?_ | refine gT ?_ ?_ | refine gF ?_ ?_ | refine dT ?_ ?_ | refine dF ?_ ?_) <;> intro hc)) <;> try simp only [*, wpx_of k46_0.eq_1, wpx_of k46_1.eq_1, wpx_of k46_2.eq_1, wpx_of k46_3.eq_1, k0, go_sem])
    all_goals exact hK
  | false =>
    by_cases h0 : at_ < 0 <;> by_cases h1 : many ≤ at_
    all_goals
      simp only [mayN, h0, h1, decide_true, decide_false, Bool.true_or, Bool.or_true, Bool.or_self, cond_true, cond_false, Bool.or_false] at hK
      refine ACalls.into ok46 (Nat.le_of_ble_eq_true rfl) ?_; (try simp only [c46, wpx_of k46_0.eq_1, wpx_of k46_1.eq_1, wpx_of k46_2.eq_1, wpx_of k46_3.eq_1, k0, h0, h1, go_sem]); repeat' ((first
    | refine And.intro (Or.inr rfl) ?_
    | ((first | refine cB ?_ ?_ | refine gT ?_ ?_ | refine gF ?_ ?_ | refine dT ?_ ?_ | refine dF ?_ ?_) <;> intro hc)) <;> try simp only [*, wpx_of k46_0.eq_1, wpx_of k46_1.eq_1, wpx_of k46_2.eq_1, wpx_of k46_3.eq_1, k0, h0, h1, go_sem])
      all_goals exact hK

theorem Contains_any_spec {v : Int} (hk : KeepAt H kv l) (hl : l.length ≤ 1000) (hK : K (.bool (hasI l v)) H) : ACalls Try.prog 48 [kv, .int .i64 v] H K := by
  rcases hk with ⟨rfl, rfl⟩ | ⟨o, fl, ro, rfl, ho⟩
  · refine ACalls.tidy (ACalls.lay 1 ?_)
    refine Contains_spec (l := []) (fl := false) (ro := false) (by simp [ints]) (by simp) ?_
    exact ⟨rfl, ⟨_, rfl⟩, hK⟩
  · exact Contains_spec ho hl hK

theorem nvmG_Crash_spec {ka : AVal} (h : MemG H oM oR n f kv m) (ho : KeepAt H ka l) (hl : l.length ≤ 1000) (hK : K (.tup []) (memH H oM oR n f kv (crashM m l))) :
    ACalls Try.prog 22 [.ptr oM 1 0 0, ka] H K := by
  have k1 : Keeps H oM (.arr 5 [[.slice oR n 0 n f, .bool m.off, .int .i64 m.c, .int .i64 m.fuse, kv]] false) := Keeps.of h.mem
  have k0 := k1.at
  cases hoff : m.off with
  | true =>
    have e : crashM m l = m := by unfold crashM; rw [hoff]; rfl
    rw [e, memH_self h] at hK
    rw [hoff] at k0
    refine ACalls.into ok22 (Nat.le_of_ble_eq_true rfl) ?_; (try simp only [c22, wpx_of k22_0.eq_1, wpx_of k22_1.eq_1, wpx_of k22_3.eq_1, wpx_of k22_4.eq_1, wpx_of k22_5.eq_1, k0, go_sem]); repeat' ((first
    | refine And.intro (Or.inr rfl) ?_
    | ((first | refine cB ?_ ?_ | refine gT ?_ ?_ | refine gF ?_ ?_ | refine dT ?_ ?_ | refine dF ?_ ?_) <;> intro hc)) <;> try simp only [*, wpx_of k22_0.eq_1, wpx_of k22_1.eq_1, wpx_of k22_3.eq_1, wpx_of k22_4.eq_1, wpx_of k22_5.eq_1, k0, go_sem])
    all_goals exact hK
  | false =>
    have k0' := k0
    rw [hoff] at k0
    have hne := h.ne
    have hne' := Ne.symm h.ne
    refine ACalls.into ok22 (Nat.le_of_ble_eq_true rfl) ?_; (try simp only [c22, wpx_of k22_0.eq_1, wpx_of k22_1.eq_1, wpx_of k22_3.eq_1, wpx_of k22_4.eq_1, wpx_of k22_5.eq_1, k0, go_sem]); repeat' ((first
    | refine And.intro (Or.inr rfl) ?_
    | ((first | refine cB ?_ ?_ | refine gT ?_ ?_ | refine gF ?_ ?_ | refine dT ?_ ?_ | refine dF ?_ ?_) <;> intro hc)) <;> try simp only [*, wpx_of k22_0.eq_1, wpx_of k22_1.eq_1, wpx_of k22_3.eq_1, wpx_of k22_4.eq_1, wpx_of k22_5.eq_1, k0, go_sem])
    refine ALoop.keep [14, 0, 1, 13] ?_; simp only [List.map_cons, List.map_nil, go_sem]
    refine ALoop.heap (H' := H.set oR (rowsO (turnedR (fallG l) m.rows 0))) (by rw [turnedR_zero]; exact (set_same h.robj).symm) ?_
    refine ALoop.acc (α := Unit) (fun k _ => [(14, .int .i64 (k : Int))]) (fun k _ => H.set oR (rowsO (turnedR (fallG l) m.rows k))) (fun _ _ => True) n ?_ (a0 := ()) trivial
    intro k _ hk _ next
    refine ALoop.unfold ?_
    have hle := h.le
    have hw := wrap_succ (k := k) (by omega)
    have g1 : ∀ x, (H.set oR x)[oM]? = some (.arr 5 [[.slice oR n 0 n f, .bool false, .int .i64 m.c, .int .i64 m.fuse, kv]] false) := fun x => by rw [List.getElem?_set_ne hne']; exact k0
    have g2 : ∀ x, (H.set oR x)[oR]? = some x := fun x => List.getElem?_set_self (List.getElem?_eq_some_iff.1 h.robj).1
    have g3 : ∀ x, KeepAt (H.set oR x) ka l := fun x => ho.set h.robj (by simp [rowsO])
    have g4 : ∀ x y, ((H.set oR x).set oM y)[oM]? = some y := fun x y => List.getElem?_set_self (by rw [List.length_set]; exact (List.getElem?_eq_some_iff.1 h.mem).1)
    have hl1 : ((turnedR (fallG l) m.rows k).map RowM.cells).length = n := by rw [List.length_map, turnedR_len, h.len]
    by_cases hkn : k < n
    · have hkr : k < m.rows.length := by rw [h.len]; exact hkn
      have hra : RowAt (H.set oR (rowsO (turnedR (fallG l) m.rows k))) oR n k ((turnedR (fallG l) m.rows k).map RowM.cells) (row (turnedR (fallG l) m.rows k) k) :=
        ⟨g2 _, hl1, by rw [List.getElem?_map, row_some (by rw [turnedR_len]; exact hkr)]; rfl, row_ok (turnedR_ok (fun i r h => fall_ok h _) h.ok k) (by rw [turnedR_len]; exact hkr)⟩
      (try simp only [wpx_of k22_0.eq_1, wpx_of k22_1.eq_1, wpx_of k22_3.eq_1, wpx_of k22_4.eq_1, wpx_of k22_5.eq_1, hw, g1, hkn, wpx_of b22_2.eq_1, nlt_iff, n0_le, rowsO, g2, hl1, putRow, List.set_set, rows_set, List.length_map, turnedR_len, h.len, List.length_set, go_sem]); repeat' ((first
    | refine And.intro (Or.inr rfl) ?_
    | ((first | refine cB ?_ ?_ | refine gT ?_ ?_ | refine gF ?_ ?_ | refine dT ?_ ?_ | refine dF ?_ ?_) <;> intro hc)
    | refine Contains_any_spec (g3 _) hl ?_
    | refine row_Fall_spec hra (fun b => ?_)) <;> try simp only [*, wpx_of k22_0.eq_1, wpx_of k22_1.eq_1, wpx_of k22_3.eq_1, wpx_of k22_4.eq_1, wpx_of k22_5.eq_1, hw, g1, hkn, wpx_of b22_2.eq_1, nlt_iff, n0_le, rowsO, g2, hl1, putRow, List.set_set, rows_set, List.length_map, turnedR_len, h.len, List.length_set, go_sem])
      refine ALoop.heap (H' := H.set oR (rowsO (turnedR (fallG l) m.rows (k + 1)))) (by rw [turnedR_succ hkr]; rfl) ?_
      (refine ALoop.keep [14, 0, 1, 13] ?_; simp only [List.map_cons, List.map_nil, go_sem]; refine next () hkn trivial)
    · have hk : k = n := by omega
      subst hk
      have e : memH H oM oR k f kv (crashM m l) = (H.set oR (rowsO (turnedR (fallG l) m.rows k))).set oM (memG oR k f kv { m with rows := fallR l m.rows, off := true, fuse := 0 }) := by
        rw [memH, List.set_comm _ _ hne, crashM, hoff, cond_false, fallR, h.len]
      rw [e] at hK
      (try simp only [wpx_of k22_0.eq_1, wpx_of k22_1.eq_1, wpx_of k22_3.eq_1, wpx_of k22_4.eq_1, wpx_of k22_5.eq_1, hw, g1, hkn, wpx_of b22_2.eq_1, nlt_iff, n0_le, rowsO, g4, List.set_set, go_sem]); repeat' ((first
    | refine And.intro (Or.inr rfl) ?_
    | ((first | refine cB ?_ ?_ | refine gT ?_ ?_ | refine gF ?_ ?_ | refine dT ?_ ?_ | refine dF ?_ ?_) <;> intro hc)) <;> try simp only [*, wpx_of k22_0.eq_1, wpx_of k22_1.eq_1, wpx_of k22_3.eq_1, wpx_of k22_4.eq_1, wpx_of k22_5.eq_1, hw, g1, hkn, wpx_of b22_2.eq_1, nlt_iff, n0_le, rowsO, g4, List.set_set, go_sem])
      exact hK

theorem nvmG_burn_spec (h : MemG H oM oR n f kv m) (hc : m.c + 1 ≤ 1000000) (hK : K (.bool (burnM m).2) (memH H oM oR n f kv (burnM m).1)) : ACalls Try.prog 47 [.ptr oM 1 0 0] H K := by
  have k1 : Keeps H oM (.arr 5 [[.slice oR n 0 n f, .bool m.off, .int .i64 m.c, .int .i64 m.fuse, kv]] false) := Keeps.of h.mem
  have k0 := k1.at
  have ks := k1.self0
  have hc0 := h.c0
  have hf0 := h.f0
  have hf1 := h.f1
  have hwc : IntKind.wrap .i64 (m.c + 1) = m.c + 1 := w64' (by omega) (by omega)
  by_cases hf : 0 < m.fuse
  · have hwf : IntKind.wrap .i64 (m.fuse - 1) = m.fuse - 1 := w64' (by omega) (by omega)
    by_cases h1 : m.fuse = 1
    · have hw0 : IntKind.wrap .i64 (m.fuse - 1) = 0 := by rw [hwf]; omega
      have e : burnM m = (crashM { m with fuse := 0 } m.keep, false) := by unfold burnM; rw [if_pos hf, if_pos h1]
      have h2 : MemG (H.set oM (memG oR n f kv { m with fuse := 0 })) oM oR n f kv { m with fuse := 0 } := by
        have := h.put (m' := { m with fuse := 0 }) h.len h.ok h.c0 h.c1 (by simp) (by simp) rfl
        rwa [memH_rows (m' := { m with fuse := 0 }) h rfl] at this
      have hk2 : KeepAt (H.set oM (memG oR n f kv { m with fuse := 0 })) kv m.keep := h2.keep
      have hkl := h.kl
      simp only [e] at hK
      rw [← memH_setM h.ne (x := memG oR n f kv { m with fuse := 0 })] at hK
      clear hwf h1 hc0 hf0 hf1
      refine ACalls.into ok47 (Nat.le_of_ble_eq_true rfl) ?_; (try simp only [c47, wpx_of k47_0.eq_1, wpx_of k47_1.eq_1, wpx_of k47_2.eq_1, wpx_of k47_3.eq_1, wpx_of k47_4.eq_1, k0, ks, hf, hw0, List.set_set, go_sem]); repeat' ((first
    | refine And.intro (Or.inr rfl) ?_
    | ((first | refine cB ?_ ?_ | refine gT ?_ ?_ | refine gF ?_ ?_ | refine dT ?_ ?_ | refine dF ?_ ?_) <;> intro hc)
    | refine nvmG_Crash_spec h2 hk2 hkl ?_) <;> try simp only [*, wpx_of k47_0.eq_1, wpx_of k47_1.eq_1, wpx_of k47_2.eq_1, wpx_of k47_3.eq_1, wpx_of k47_4.eq_1, k0, ks, hf, hw0, List.set_set, go_sem])
      all_goals exact hK
    · have e : burnM m = ({ m with fuse := m.fuse - 1, c := m.c + 1 }, true) := by unfold burnM; rw [if_pos hf, if_neg h1]
      have h0 : (m.fuse - 1 = 0) = False := eq_false (by omega)
      simp only [e] at hK
      rw [memH_rows (m' := { m with fuse := m.fuse - 1, c := m.c + 1 }) h rfl] at hK
      clear h1 hc0 hf0 hf1
      refine ACalls.into ok47 (Nat.le_of_ble_eq_true rfl) ?_; (try simp only [c47, wpx_of k47_0.eq_1, wpx_of k47_1.eq_1, wpx_of k47_2.eq_1, wpx_of k47_3.eq_1, wpx_of k47_4.eq_1, k0, ks, hf, hwf, h0, hwc, List.set_set, go_sem]); repeat' ((first
    | refine And.intro (Or.inr rfl) ?_
    | ((first | refine cB ?_ ?_ | refine gT ?_ ?_ | refine gF ?_ ?_ | refine dT ?_ ?_ | refine dF ?_ ?_) <;> intro hc)) <;> try simp only [*, wpx_of k47_0.eq_1, wpx_of k47_1.eq_1, wpx_of k47_2.eq_1, wpx_of k47_3.eq_1, wpx_of k47_4.eq_1, k0, ks, hf, hwf, h0, hwc, List.set_set, go_sem])
      all_goals exact hK
  · have e : burnM m = ({ m with c := m.c + 1 }, true) := by unfold burnM; rw [if_neg hf]
    simp only [e] at hK
    rw [memH_rows (m' := { m with c := m.c + 1 }) h rfl] at hK
    refine ACalls.into ok47 (Nat.le_of_ble_eq_true rfl) ?_; (try simp only [c47, wpx_of k47_0.eq_1, wpx_of k47_1.eq_1, wpx_of k47_2.eq_1, wpx_of k47_3.eq_1, wpx_of k47_4.eq_1, k0, ks, hf, hwc, List.set_set, go_sem]); repeat' ((first
    | refine And.intro (Or.inr rfl) ?_
    | ((first | refine cB ?_ ?_ | refine gT ?_ ?_ | refine gF ?_ ?_ | refine dT ?_ ?_ | refine dF ?_ ?_) <;> intro hc)) <;> try simp only [*, wpx_of k47_0.eq_1, wpx_of k47_1.eq_1, wpx_of k47_2.eq_1, wpx_of k47_3.eq_1, wpx_of k47_4.eq_1, k0, ks, hf, hwc, List.set_set, go_sem])
    all_goals exact hK
end
end Go.Proofs.Ytfahkkefcdeohaa.Ax
