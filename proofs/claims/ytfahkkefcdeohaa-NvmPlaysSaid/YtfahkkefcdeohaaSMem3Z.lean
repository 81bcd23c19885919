/- Memories of rows: contracts of the methods, further. Conditions: none. -/
import Derived.Test.YtfahkkefcdeohaaSMem2Z
set_option linter.unusedSimpArgs false
set_option linter.unusedVariables false
namespace Go.Proofs.Ytfahkkefcdeohaa.Ax
open Go Go.Ax Go.Ax.M
section
variable {H : Heap} {K : AVal → Heap → Prop} {oM oR n o p : Nat} {f fl fp ro rp : Bool} {kv : AVal} {m : MemM} {l : List Int}

theorem nvmG_Load_spec {at_ : Int} (h : MemG H oM oR n f kv m) (hK : K (.tup [.int .u64 (loadM m at_).1, .int .i64 (loadM m at_).2]) H) : ACalls Try.prog 16 [.ptr oM 1 0 0, .int .i64 at_] H K := by
  have k0 := h.cell
  have k2 := h.cells
  have hl := h.mlen
  have hn8 := h.w8
  have hmay : mayN m.off at_ ((n : Int) * 8) = mayW m at_ := by unfold mayW; rw [h.len]
  by_cases he : mayW m at_ = 0
  · obtain ⟨hd, hr, hi⟩ := h.place he
    have hr0 := h.rowAt hi
    have hil : ((atRow at_ : Nat) : Int) < (n : Int) := by omega
    unfold loadM at hK
    rw [if_pos he] at hK
    rw [he] at hmay
    clear he
    refine ACalls.into ok16 (Nat.le_of_ble_eq_true rfl) ?_; (try simp only [c16, wpx_of k16_0.eq_1, wpx_of k16_1.eq_1, wpx_of k16_2.eq_1, wpx_of k16_3.eq_1, k0, k2, hl, hn8, hmay, hd, hr, hil, hi, n0_le, Int.toNat_natCast, nlt_iff, go_sem]); repeat' ((first
    | refine And.intro (Or.inr rfl) ?_
    | ((first | refine cB ?_ ?_ | refine gT ?_ ?_ | refine gF ?_ ?_ | refine dT ?_ ?_ | refine dF ?_ ?_) <;> intro hc)
    | refine nvmG_may_spec h.mem ?_
    | refine row_Load_spec hr0 ?_) <;> try simp only [*, wpx_of k16_0.eq_1, wpx_of k16_1.eq_1, wpx_of k16_2.eq_1, wpx_of k16_3.eq_1, k0, k2, hl, hn8, hmay, hd, hr, hil, hi, n0_le, Int.toNat_natCast, nlt_iff, go_sem])
    all_goals exact hK
  · unfold loadM at hK
    rw [if_neg he] at hK
    refine ACalls.into ok16 (Nat.le_of_ble_eq_true rfl) ?_; (try simp only [c16, wpx_of k16_0.eq_1, wpx_of k16_1.eq_1, wpx_of k16_2.eq_1, wpx_of k16_3.eq_1, k0, k2, hl, hn8, hmay, he, n0_le, Int.toNat_natCast, nlt_iff, go_sem]); repeat' ((first
    | refine And.intro (Or.inr rfl) ?_
    | ((first | refine cB ?_ ?_ | refine gT ?_ ?_ | refine gF ?_ ?_ | refine dT ?_ ?_ | refine dF ?_ ?_) <;> intro hc)
    | refine nvmG_may_spec h.mem ?_) <;> try simp only [*, wpx_of k16_0.eq_1, wpx_of k16_1.eq_1, wpx_of k16_2.eq_1, wpx_of k16_3.eq_1, k0, k2, hl, hn8, hmay, he, n0_le, Int.toNat_natCast, nlt_iff, go_sem])
    all_goals exact hK

theorem nvmG_Store_spec {at_ v : Int} (h : MemG H oM oR n f kv m) (hc : m.c + 1 ≤ 1000000) (hK : K (.int .i64 (storeM m at_ v).2) (memH H oM oR n f kv (storeM m at_ v).1)) : ACalls Try.prog 17 [.ptr oM 1 0 0, .int .i64 at_, .int .u64 v] H K := by
  have k0 := h.cell
  have hn8 := h.w8
  have hmay : mayN m.off at_ ((n : Int) * 8) = mayW m at_ := by unfold mayW; rw [h.len]
  by_cases he : mayW m at_ = 0
  · obtain ⟨hd, hr, hi⟩ := h.place he
    have hil : ((atRow at_ : Nat) : Int) < (n : Int) := by omega
    have h2 := h.burn hc
    have m0 := h2.cell
    have m2 := h2.cells
    have hl := h2.mlen
    have hr0 := h2.rowAt hi
    unfold storeM doneM at hK
    rw [if_pos he] at hK
    rw [he] at hmay
    clear he
    cases hb : (burnM m).2 with
    | false =>
      simp only [hb, cond_false] at hK
      refine ACalls.into ok17 (Nat.le_of_ble_eq_true rfl) ?_; (try simp only [c17, wpx_of k17_0.eq_1, wpx_of k17_1.eq_1, wpx_of k17_2.eq_1, wpx_of k17_3.eq_1, wpx_of k17_4.eq_1, k0, hn8, hmay, hb, n0_le, go_sem]); repeat' ((first
    | refine And.intro (Or.inr rfl) ?_
    | ((first | refine cB ?_ ?_ | refine gT ?_ ?_ | refine gF ?_ ?_ | refine dT ?_ ?_ | refine dF ?_ ?_) <;> intro hc)
    | refine nvmG_may_spec h.mem ?_
    | refine nvmG_burn_spec h hc ?_) <;> try simp only [*, wpx_of k17_0.eq_1, wpx_of k17_1.eq_1, wpx_of k17_2.eq_1, wpx_of k17_3.eq_1, wpx_of k17_4.eq_1, k0, hn8, hmay, hb, n0_le, go_sem])
      all_goals exact hK
    | true =>
      simp only [hb, cond_true] at hK
      refine ACalls.into ok17 (Nat.le_of_ble_eq_true rfl) ?_; (try simp only [c17, wpx_of k17_0.eq_1, wpx_of k17_1.eq_1, wpx_of k17_2.eq_1, wpx_of k17_3.eq_1, wpx_of k17_4.eq_1, k0, m0, m2, hl, hn8, hmay, hd, hr, hil, hi, hb, n0_le, Int.toNat_natCast, nlt_iff, go_sem]); repeat' ((first
    | refine And.intro (Or.inr rfl) ?_
    | ((first | refine cB ?_ ?_ | refine gT ?_ ?_ | refine gF ?_ ?_ | refine dT ?_ ?_ | refine dF ?_ ?_) <;> intro hc)
    | refine nvmG_may_spec h.mem ?_
    | refine nvmG_burn_spec h hc ?_
    | refine row_Store_spec hr0 ?_) <;> try simp only [*, wpx_of k17_0.eq_1, wpx_of k17_1.eq_1, wpx_of k17_2.eq_1, wpx_of k17_3.eq_1, wpx_of k17_4.eq_1, k0, m0, m2, hl, hn8, hmay, hd, hr, hil, hi, hb, n0_le, Int.toNat_natCast, nlt_iff, go_sem])
      all_goals
        rw [putRow_memH]
        exact hK
  · unfold storeM doneM at hK
    rw [if_neg he, memH_self h] at hK
    refine ACalls.into ok17 (Nat.le_of_ble_eq_true rfl) ?_; (try simp only [c17, wpx_of k17_0.eq_1, wpx_of k17_1.eq_1, wpx_of k17_2.eq_1, wpx_of k17_3.eq_1, wpx_of k17_4.eq_1, k0, hn8, hmay, he, n0_le, go_sem]); repeat' ((first
    | refine And.intro (Or.inr rfl) ?_
    | ((first | refine cB ?_ ?_ | refine gT ?_ ?_ | refine gF ?_ ?_ | refine dT ?_ ?_ | refine dF ?_ ?_) <;> intro hc)
    | refine nvmG_may_spec h.mem ?_) <;> try simp only [*, wpx_of k17_0.eq_1, wpx_of k17_1.eq_1, wpx_of k17_2.eq_1, wpx_of k17_3.eq_1, wpx_of k17_4.eq_1, k0, hn8, hmay, he, n0_le, go_sem])
    all_goals exact hK

theorem nvmG_Flush_spec {r : Int} (h : MemG H oM oR n f kv m) (hc : m.c + 1 ≤ 1000000) (hK : K (.int .i64 (flushM m r).2) (memH H oM oR n f kv (flushM m r).1)) : ACalls Try.prog 18 [.ptr oM 1 0 0, .int .i64 r] H K := by
  have k0 := h.cell
  have hmay : mayN m.off r (n : Int) = mayR m r := by unfold mayR; rw [h.len]
  by_cases he : mayR m r = 0
  · have hr := (mayN_zero.1 he).2
    rw [h.len] at hr
    obtain ⟨i, rfl⟩ : ∃ i : Nat, r = (i : Int) := ⟨r.toNat, by omega⟩
    have hi : i < n := by omega
    have h2 := h.burn hc
    have m0 := h2.cell
    have m2 := h2.cells
    have hl := h2.mlen
    have hr0 := h2.rowAt hi
    unfold flushM doneM flushG at hK
    rw [if_pos he] at hK
    rw [he] at hmay
    clear he hr
    cases hb : (burnM m).2 with
    | false =>
      simp only [hb, cond_false] at hK
      refine ACalls.into ok18 (Nat.le_of_ble_eq_true rfl) ?_; (try simp only [c18, wpx_of k18_0.eq_1, wpx_of k18_1.eq_1, wpx_of k18_2.eq_1, wpx_of k18_3.eq_1, wpx_of k18_4.eq_1, k0, hmay, hb, n0_le, go_sem]); repeat' ((first
    | refine And.intro (Or.inr rfl) ?_
    | ((first | refine cB ?_ ?_ | refine gT ?_ ?_ | refine gF ?_ ?_ | refine dT ?_ ?_ | refine dF ?_ ?_) <;> intro hc)
    | refine nvmG_may_spec h.mem ?_
    | refine nvmG_burn_spec h hc ?_) <;> try simp only [*, wpx_of k18_0.eq_1, wpx_of k18_1.eq_1, wpx_of k18_2.eq_1, wpx_of k18_3.eq_1, wpx_of k18_4.eq_1, k0, hmay, hb, n0_le, go_sem])
      all_goals exact hK
    | true =>
      simp only [hb, cond_true, Int.toNat_natCast] at hK
      refine ACalls.into ok18 (Nat.le_of_ble_eq_true rfl) ?_; (try simp only [c18, wpx_of k18_0.eq_1, wpx_of k18_1.eq_1, wpx_of k18_2.eq_1, wpx_of k18_3.eq_1, wpx_of k18_4.eq_1, k0, m0, m2, hl, hmay, hi, hb, n0_le, Int.toNat_natCast, nlt_iff, go_sem]); repeat' ((first
    | refine And.intro (Or.inr rfl) ?_
    | ((first | refine cB ?_ ?_ | refine gT ?_ ?_ | refine gF ?_ ?_ | refine dT ?_ ?_ | refine dF ?_ ?_) <;> intro hc)
    | refine nvmG_may_spec h.mem ?_
    | refine nvmG_burn_spec h hc ?_
    | refine row_Flush_spec hr0 ?_) <;> try simp only [*, wpx_of k18_0.eq_1, wpx_of k18_1.eq_1, wpx_of k18_2.eq_1, wpx_of k18_3.eq_1, wpx_of k18_4.eq_1, k0, m0, m2, hl, hmay, hi, hb, n0_le, Int.toNat_natCast, nlt_iff, go_sem])
      all_goals
        rw [putRow_memH]
        exact hK
  · unfold flushM doneM at hK
    rw [if_neg he, memH_self h] at hK
    refine ACalls.into ok18 (Nat.le_of_ble_eq_true rfl) ?_; (try simp only [c18, wpx_of k18_0.eq_1, wpx_of k18_1.eq_1, wpx_of k18_2.eq_1, wpx_of k18_3.eq_1, wpx_of k18_4.eq_1, k0, hmay, he, n0_le, go_sem]); repeat' ((first
    | refine And.intro (Or.inr rfl) ?_
    | ((first | refine cB ?_ ?_ | refine gT ?_ ?_ | refine gF ?_ ?_ | refine dT ?_ ?_ | refine dF ?_ ?_) <;> intro hc)
    | refine nvmG_may_spec h.mem ?_) <;> try simp only [*, wpx_of k18_0.eq_1, wpx_of k18_1.eq_1, wpx_of k18_2.eq_1, wpx_of k18_3.eq_1, wpx_of k18_4.eq_1, k0, hmay, he, n0_le, go_sem])
    all_goals exact hK

theorem nvmG_Evict_spec {r : Int} (h : MemG H oM oR n f kv m) (hK : K (.int .i64 (evictM m r).2) (memH H oM oR n f kv (evictM m r).1)) : ACalls Try.prog 33 [.ptr oM 1 0 0, .int .i64 r] H K := by
  have k0 := h.cell
  have hmay : mayN m.off r (n : Int) = mayR m r := by unfold mayR; rw [h.len]
  by_cases he : mayR m r = 0
  · have hr := (mayN_zero.1 he).2
    rw [h.len] at hr
    obtain ⟨i, rfl⟩ : ∃ i : Nat, r = (i : Int) := ⟨r.toNat, by omega⟩
    have hi : i < n := by omega
    have m2 := h.cells
    have hl := h.mlen
    have hr0 := h.rowAt hi
    unfold evictM evictG at hK
    rw [if_pos he] at hK
    rw [he] at hmay
    clear he hr
    simp only [Int.toNat_natCast] at hK
    refine ACalls.into ok33 (Nat.le_of_ble_eq_true rfl) ?_; (try simp only [c33, wpx_of k33_0.eq_1, wpx_of k33_1.eq_1, wpx_of k33_2.eq_1, k0, m2, hl, hmay, hi, n0_le, Int.toNat_natCast, nlt_iff, go_sem]); repeat' ((first
    | refine And.intro (Or.inr rfl) ?_
    | ((first | refine cB ?_ ?_ | refine gT ?_ ?_ | refine gF ?_ ?_ | refine dT ?_ ?_ | refine dF ?_ ?_) <;> intro hc)
    | refine nvmG_may_spec h.mem ?_
    | refine row_Evict_spec hr0 ?_) <;> try simp only [*, wpx_of k33_0.eq_1, wpx_of k33_1.eq_1, wpx_of k33_2.eq_1, k0, m2, hl, hmay, hi, n0_le, Int.toNat_natCast, nlt_iff, go_sem])
    all_goals
      rw [putRow_self h]
      exact hK
  · unfold evictM at hK
    rw [if_neg he, memH_self h] at hK
    refine ACalls.into ok33 (Nat.le_of_ble_eq_true rfl) ?_; (try simp only [c33, wpx_of k33_0.eq_1, wpx_of k33_1.eq_1, wpx_of k33_2.eq_1, k0, hmay, he, n0_le, go_sem]); repeat' ((first
    | refine And.intro (Or.inr rfl) ?_
    | ((first | refine cB ?_ ?_ | refine gT ?_ ?_ | refine gF ?_ ?_ | refine dT ?_ ?_ | refine dF ?_ ?_) <;> intro hc)
    | refine nvmG_may_spec h.mem ?_) <;> try simp only [*, wpx_of k33_0.eq_1, wpx_of k33_1.eq_1, wpx_of k33_2.eq_1, k0, hmay, he, n0_le, go_sem])
    all_goals exact hK

theorem nvmG_Fence_spec (h : MemG H oM oR n f kv m) (hc : m.c + 1 ≤ 1000000) (hK : K (.int .i64 (fenceM m).2) (memH H oM oR n f kv (fenceM m).1)) : ACalls Try.prog 19 [.ptr oM 1 0 0] H K := by
  have k0 := h.cell
  by_cases he : mayN m.off 0 1 = 0
  · have h2 := h.burn hc
    have m0 := h2.cell
    unfold fenceM doneM at hK
    rw [if_pos he] at hK
    cases hb : (burnM m).2 with
    | false =>
      simp only [hb, cond_false] at hK
      refine ACalls.into ok19 (Nat.le_of_ble_eq_true rfl) ?_; (try simp only [c19, wpx_of k19_0.eq_1, wpx_of k19_1.eq_1, wpx_of k19_2.eq_1, wpx_of k19_3.eq_1, wpx_of k19_5.eq_1, wpx_of k19_6.eq_1, wpx_of k19_7.eq_1, k0, he, hb, n0_le, go_sem]); repeat' ((first
    | refine And.intro (Or.inr rfl) ?_
    | ((first | refine cB ?_ ?_ | refine gT ?_ ?_ | refine gF ?_ ?_ | refine dT ?_ ?_ | refine dF ?_ ?_) <;> intro hc)
    | refine nvmG_may_spec h.mem ?_
    | refine nvmG_burn_spec h hc ?_) <;> try simp only [*, wpx_of k19_0.eq_1, wpx_of k19_1.eq_1, wpx_of k19_2.eq_1, wpx_of k19_3.eq_1, wpx_of k19_5.eq_1, wpx_of k19_6.eq_1, wpx_of k19_7.eq_1, k0, he, hb, n0_le, go_sem])
      all_goals exact hK
    | true =>
      simp only [hb, cond_true] at hK
      refine ACalls.into ok19 (Nat.le_of_ble_eq_true rfl) ?_; (try simp only [c19, wpx_of k19_0.eq_1, wpx_of k19_1.eq_1, wpx_of k19_2.eq_1, wpx_of k19_3.eq_1, wpx_of k19_5.eq_1, wpx_of k19_6.eq_1, wpx_of k19_7.eq_1, k0, m0, he, hb, n0_le, go_sem]); repeat' ((first
    | refine And.intro (Or.inr rfl) ?_
    | ((first | refine cB ?_ ?_ | refine gT ?_ ?_ | refine gF ?_ ?_ | refine dT ?_ ?_ | refine dF ?_ ?_) <;> intro hc)
    | refine nvmG_may_spec h.mem ?_
    | refine nvmG_burn_spec h hc ?_) <;> try simp only [*, wpx_of k19_0.eq_1, wpx_of k19_1.eq_1, wpx_of k19_2.eq_1, wpx_of k19_3.eq_1, wpx_of k19_5.eq_1, wpx_of k19_6.eq_1, wpx_of k19_7.eq_1, k0, m0, he, hb, n0_le, go_sem])
      refine ALoop.keep [18, 0, 17] ?_; simp only [List.map_cons, List.map_nil, go_sem]
      clear k0 hb
      have eH : ∀ rows, memH H oM oR n f kv { (burnM m).1 with rows := rows } = (memH H oM oR n f kv (burnM m).1).set oR (rowsO rows) := fun rows => by unfold memH; rw [List.set_set]; rfl
      rw [eH] at hK
      generalize memH H oM oR n f kv (burnM m).1 = W at *
      generalize (burnM m).1 = b at *
      have hne' := Ne.symm h2.ne
      refine ALoop.heap (H' := W.set oR (rowsO (turnedR fenceG b.rows 0))) (by rw [turnedR_zero]; exact (set_same h2.robj).symm) ?_
      refine ALoop.acc (α := Unit) (fun k _ => [(18, .int .i64 (k : Int))]) (fun k _ => W.set oR (rowsO (turnedR fenceG b.rows k))) (fun _ _ => True) n ?_ (a0 := ()) trivial
      intro k _ hk _ next
      refine ALoop.unfold ?_
      have hle := h.le
      have hw := wrap_succ (k := k) (by omega)
      have g1 : ∀ x, (W.set oR x)[oM]? = some (.arr 5 [[.slice oR n 0 n f, .bool b.off, .int .i64 b.c, .int .i64 b.fuse, kv]] false) := fun x => by rw [List.getElem?_set_ne hne']; exact m0
      have g2 : ∀ x, (W.set oR x)[oR]? = some x := fun x => List.getElem?_set_self (List.getElem?_eq_some_iff.1 h2.robj).1
      have hl1 : ((turnedR fenceG b.rows k).map RowM.cells).length = n := by rw [List.length_map, turnedR_len, h2.len]
      by_cases hkn : k < n
      · have hkr : k < b.rows.length := by rw [h2.len]; exact hkn
        have hra : RowAt (W.set oR (rowsO (turnedR fenceG b.rows k))) oR n k ((turnedR fenceG b.rows k).map RowM.cells) (row (turnedR fenceG b.rows k) k) :=
          ⟨g2 _, hl1, by rw [List.getElem?_map, row_some (by rw [turnedR_len]; exact hkr)]; rfl, row_ok (turnedR_ok (fun i r h => fence_ok h) h2.ok k) (by rw [turnedR_len]; exact hkr)⟩
        (try simp only [wpx_of k19_0.eq_1, wpx_of k19_1.eq_1, wpx_of k19_2.eq_1, wpx_of k19_3.eq_1, wpx_of k19_5.eq_1, wpx_of k19_6.eq_1, wpx_of k19_7.eq_1, hw, g1, hkn, wpx_of b19_4.eq_1, nlt_iff, n0_le, rowsO, g2, hl1, putRow, List.set_set, rows_set, List.length_map, turnedR_len, h2.len, List.length_set, go_sem]); repeat' ((first
    | refine And.intro (Or.inr rfl) ?_
    | ((first | refine cB ?_ ?_ | refine gT ?_ ?_ | refine gF ?_ ?_ | refine dT ?_ ?_ | refine dF ?_ ?_) <;> intro hc)
    | refine row_Fence_spec hra ?_) <;> try simp only [*, wpx_of k19_0.eq_1, wpx_of k19_1.eq_1, wpx_of k19_2.eq_1, wpx_of k19_3.eq_1, wpx_of k19_5.eq_1, wpx_of k19_6.eq_1, wpx_of k19_7.eq_1, hw, g1, hkn, wpx_of b19_4.eq_1, nlt_iff, n0_le, rowsO, g2, hl1, putRow, List.set_set, rows_set, List.length_map, turnedR_len, h2.len, List.length_set, go_sem])
        refine ALoop.heap (H' := W.set oR (rowsO (turnedR fenceG b.rows (k + 1)))) (by rw [turnedR_succ hkr]; rfl) ?_
        (refine ALoop.keep [18, 0, 17] ?_; simp only [List.map_cons, List.map_nil, go_sem]; refine next () hkn trivial)
      · have hk : k = n := by omega
        have hf : fenceR b.rows = turnedR fenceG b.rows k := by rw [fenceR, h2.len, hk]
        rw [hf] at hK
        (try simp only [wpx_of k19_0.eq_1, wpx_of k19_1.eq_1, wpx_of k19_2.eq_1, wpx_of k19_3.eq_1, wpx_of k19_5.eq_1, wpx_of k19_6.eq_1, wpx_of k19_7.eq_1, hw, g1, hkn, wpx_of b19_4.eq_1, nlt_iff, n0_le, rowsO, go_sem]); repeat' ((first
    | refine And.intro (Or.inr rfl) ?_
    | ((first | refine cB ?_ ?_ | refine gT ?_ ?_ | refine gF ?_ ?_ | refine dT ?_ ?_ | refine dF ?_ ?_) <;> intro hc)) <;> try simp only [*, wpx_of k19_0.eq_1, wpx_of k19_1.eq_1, wpx_of k19_2.eq_1, wpx_of k19_3.eq_1, wpx_of k19_5.eq_1, wpx_of k19_6.eq_1, wpx_of k19_7.eq_1, hw, g1, hkn, wpx_of b19_4.eq_1, nlt_iff, n0_le, rowsO, go_sem])
        exact hK
  · unfold fenceM doneM at hK
    rw [if_neg he, memH_self h] at hK
    refine ACalls.into ok19 (Nat.le_of_ble_eq_true rfl) ?_; (try simp only [c19, wpx_of k19_0.eq_1, wpx_of k19_1.eq_1, wpx_of k19_2.eq_1, wpx_of k19_3.eq_1, wpx_of k19_5.eq_1, wpx_of k19_6.eq_1, wpx_of k19_7.eq_1, k0, he, n0_le, go_sem]); repeat' ((first
    | refine And.intro (Or.inr rfl) ?_
    | ((first | refine cB ?_ ?_ | refine gT ?_ ?_ | refine gF ?_ ?_ | refine dT ?_ ?_ | refine dF ?_ ?_) <;> intro hc)
    | refine nvmG_may_spec h.mem ?_) <;> try simp only [*, wpx_of k19_0.eq_1, wpx_of k19_1.eq_1, wpx_of k19_2.eq_1, wpx_of k19_3.eq_1, wpx_of k19_5.eq_1, wpx_of k19_6.eq_1, wpx_of k19_7.eq_1, k0, he, n0_le, go_sem])
    all_goals exact hK

theorem nvmG_Swap_spec {at_ old v : Int} (h : MemG H oM oR n f kv m) (hc : m.c + 1 ≤ 1000000) (hK : K (.tup [.bool (swapM m at_ old v).2.1, .int .i64 (swapM m at_ old v).2.2]) (memH H oM oR n f kv (swapM m at_ old v).1)) :
    ACalls Try.prog 15 [.ptr oM 1 0 0, .int .i64 at_, .int .u64 old, .int .u64 v] H K := by
  unfold swapM at hK
  by_cases h0 : (loadM m at_).2 = 0
  · by_cases h1 : (loadM m at_).1 = old
    · rw [if_pos ⟨h0, h1⟩] at hK
      refine ACalls.into ok15 (Nat.le_of_ble_eq_true rfl) ?_; (try simp only [c15, wpx_of k15_0.eq_1, wpx_of k15_1.eq_1, wpx_of k15_2.eq_1, wpx_of k15_3.eq_1, wpx_of k15_4.eq_1, h0, h1, go_sem]); repeat' ((first
    | refine And.intro (Or.inr rfl) ?_
    | ((first | refine cB ?_ ?_ | refine gT ?_ ?_ | refine gF ?_ ?_ | refine dT ?_ ?_ | refine dF ?_ ?_) <;> intro hc)
    | refine nvmG_Load_spec h ?_
    | refine nvmG_Store_spec h hc ?_) <;> try simp only [*, wpx_of k15_0.eq_1, wpx_of k15_1.eq_1, wpx_of k15_2.eq_1, wpx_of k15_3.eq_1, wpx_of k15_4.eq_1, h0, h1, go_sem])
      all_goals exact hK
    · rw [if_neg (fun x => h1 x.2), memH_self h, h0] at hK
      refine ACalls.into ok15 (Nat.le_of_ble_eq_true rfl) ?_; (try simp only [c15, wpx_of k15_0.eq_1, wpx_of k15_1.eq_1, wpx_of k15_2.eq_1, wpx_of k15_3.eq_1, wpx_of k15_4.eq_1, h0, h1, go_sem]); repeat' ((first
    | refine And.intro (Or.inr rfl) ?_
    | ((first | refine cB ?_ ?_ | refine gT ?_ ?_ | refine gF ?_ ?_ | refine dT ?_ ?_ | refine dF ?_ ?_) <;> intro hc)
    | refine nvmG_Load_spec h ?_
    | refine nvmG_Store_spec h hc ?_) <;> try simp only [*, wpx_of k15_0.eq_1, wpx_of k15_1.eq_1, wpx_of k15_2.eq_1, wpx_of k15_3.eq_1, wpx_of k15_4.eq_1, h0, h1, go_sem])
      all_goals exact hK
  · rw [if_neg (fun x => h0 x.1), memH_self h] at hK
    refine ACalls.into ok15 (Nat.le_of_ble_eq_true rfl) ?_; (try simp only [c15, wpx_of k15_0.eq_1, wpx_of k15_1.eq_1, wpx_of k15_2.eq_1, wpx_of k15_3.eq_1, wpx_of k15_4.eq_1, h0, go_sem]); repeat' ((first
    | refine And.intro (Or.inr rfl) ?_
    | ((first | refine cB ?_ ?_ | refine gT ?_ ?_ | refine gF ?_ ?_ | refine dT ?_ ?_ | refine dF ?_ ?_) <;> intro hc)
    | refine nvmG_Load_spec h ?_) <;> try simp only [*, wpx_of k15_0.eq_1, wpx_of k15_1.eq_1, wpx_of k15_2.eq_1, wpx_of k15_3.eq_1, wpx_of k15_4.eq_1, h0, go_sem])
    all_goals exact hK

theorem nvmG_Rows_spec (h : MemG H oM oR n f kv m) (hK : K (.int .i64 (m.rows.length : Int)) H) : ACalls Try.prog 24 [.ptr oM 1 0 0] H K := by
  have k0 := h.cell
  rw [h.len] at hK
  refine ACalls.into ok24 (Nat.le_of_ble_eq_true rfl) ?_; (try simp only [c24, wpx_of k24_0.eq_1, k0, go_sem]); repeat' ((first
    | refine And.intro (Or.inr rfl) ?_
    | ((first | refine cB ?_ ?_ | refine gT ?_ ?_ | refine gF ?_ ?_ | refine dT ?_ ?_ | refine dF ?_ ?_) <;> intro hc)) <;> try simp only [*, wpx_of k24_0.eq_1, k0, go_sem])
  all_goals exact hK
theorem nvmG_Count_spec (h : MemG H oM oR n f kv m) (hK : K (.int .i64 m.c) H) : ACalls Try.prog 26 [.ptr oM 1 0 0] H K := by
  have k0 := h.cell
  refine ACalls.into ok26 (Nat.le_of_ble_eq_true rfl) ?_; (try simp only [c26, wpx_of k26_0.eq_1, k0, go_sem]); repeat' ((first
    | refine And.intro (Or.inr rfl) ?_
    | ((first | refine cB ?_ ?_ | refine gT ?_ ?_ | refine gF ?_ ?_ | refine dT ?_ ?_ | refine dF ?_ ?_) <;> intro hc)) <;> try simp only [*, wpx_of k26_0.eq_1, k0, go_sem])
  all_goals exact hK
theorem nvmG_Off_spec (h : MemG H oM oR n f kv m) (hK : K (.bool m.off) H) : ACalls Try.prog 27 [.ptr oM 1 0 0] H K := by
  have k0 := h.cell
  refine ACalls.into ok27 (Nat.le_of_ble_eq_true rfl) ?_; (try simp only [c27, wpx_of k27_0.eq_1, k0, go_sem]); repeat' ((first
    | refine And.intro (Or.inr rfl) ?_
    | ((first | refine cB ?_ ?_ | refine gT ?_ ?_ | refine gF ?_ ?_ | refine dT ?_ ?_ | refine dF ?_ ?_) <;> intro hc)) <;> try simp only [*, wpx_of k27_0.eq_1, k0, go_sem])
  all_goals exact hK
end
end Go.Proofs.Ytfahkkefcdeohaa.Ax
