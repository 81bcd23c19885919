/- Texts put behind one another: LFrom. Conditions: none. -/
import Derived.Test.YtfahkkefcdeohaaSLawB3Z
set_option linter.unusedSimpArgs false
set_option linter.unusedVariables false
namespace Go.Ax.M
open Go Go.Ax
theorem memH_at {H L : Heap} {a b : AObj} {n : Nat} {f : Bool} {kv : AVal} {m : MemM} : memH (H ++ a :: b :: L) (H.length + 1) H.length n f kv m = H ++ rowsO m.rows :: memG H.length n f kv m :: L := by
  unfold memH
  rw [List.set_append_right _ _ (by omega), List.set_append_right _ _ (by omega)]
  simp
theorem outM_rowsF {l : List Int} : outM (rowsF l) = [] := by
  unfold outM
  have : ∀ i, i < (rowsF l).length → (row (rowsF l) i).out = false := fun i hi => by rw [rowsF_row (by rw [rowsF_len] at hi; exact hi)]
  simp only [pick, List.map_eq_nil_iff, List.filter_eq_nil_iff, List.mem_range]
  intro i hi; simp [this i hi]
theorem fallR_rowsF {l keep : List Int} : fallR keep (rowsF l) = rowsF l := by
  unfold fallR
  refine rows_ext turnedR_len fun i hi => ?_
  rw [turnedR_row hi, if_pos hi, rowsF_row (by rw [rowsF_len] at hi; exact hi), fallG, rowFall]
  split <;> rfl
end Go.Ax.M
namespace Go.Proofs.Ytfahkkefcdeohaa.Ax
open Go Go.Ax Go.Ax.M
set_option maxRecDepth 100000
theorem nvm_From_bad {H : Heap} {K : AVal → Heap → Prop} {o : Nat} {fl ro : Bool} {l : List Int} (ho : H[o]? = some (.arr 1 (words l) ro)) (h : l.length = 0 ∨ l.length % 8 ≠ 0) (h1 : l.length ≤ 32768)
    (hK : K (.tup [.lit (.pointer none), .int .i64 1]) H) : ACalls Try.prog 23 [.slice o l.length 0 l.length fl] H K := by
  refine ACalls.tidy ?_
  have hq : IntKind.wrap .i64 ((l.length : Int).tdiv 8) = ((l.length / 8 : Nat) : Int) := by
    rw [Int.tdiv_eq_ediv_of_nonneg (by omega)]; exact w64' (by omega) (by omega)
  have hr : (l.length : Int).tmod 8 = ((l.length % 8 : Nat) : Int) := by rw [Int.tmod_eq_emod_of_nonneg (by omega)]; omega
  by_cases hs : l.length / 8 < 1
  · refine ACalls.into ok23 (Nat.le_of_ble_eq_true rfl) ?_; (try simp only [c23, wpx_of k23_0.eq_1, wpx_of k23_1.eq_1, wpx_of k23_2.eq_1, wpx_of k23_3.eq_1, wpx_of k23_4.eq_1, wpx_of k23_6.eq_1, wpx_of k23_7.eq_1, wpx_of k23_8.eq_1, wpx_of k23_9.eq_1, hq, hr, go_sem]); repeat' ((first
    | refine And.intro (Or.inr rfl) ?_
    | ((first | refine cB ?_ ?_ | refine gT ?_ ?_ | refine gF ?_ ?_ | refine dT ?_ ?_ | refine dF ?_ ?_) <;> intro hc)
    | refine nvm_New_bad (by omega) ?_) <;> try simp only [*, wpx_of k23_0.eq_1, wpx_of k23_1.eq_1, wpx_of k23_2.eq_1, wpx_of k23_3.eq_1, wpx_of k23_4.eq_1, wpx_of k23_6.eq_1, wpx_of k23_7.eq_1, wpx_of k23_8.eq_1, wpx_of k23_9.eq_1, hq, hr, go_sem])
    all_goals exact ⟨rfl, ⟨[], (List.append_nil _).symm⟩⟩
  · have h8 : (((l.length % 8 : Nat) : Int) = 0) = False := eq_false (by omega)
    clear h
    refine ACalls.into ok23 (Nat.le_of_ble_eq_true rfl) ?_; (try simp only [c23, wpx_of k23_0.eq_1, wpx_of k23_1.eq_1, wpx_of k23_2.eq_1, wpx_of k23_3.eq_1, wpx_of k23_4.eq_1, wpx_of k23_6.eq_1, wpx_of k23_7.eq_1, wpx_of k23_8.eq_1, wpx_of k23_9.eq_1, hq, hr, h8, go_sem]); repeat' ((first
    | refine And.intro (Or.inr rfl) ?_
    | ((first | refine cB ?_ ?_ | refine gT ?_ ?_ | refine gF ?_ ?_ | refine dT ?_ ?_ | refine dF ?_ ?_) <;> intro hc)
    | refine nvm_New_spec (n := l.length / 8) (by omega) (by omega) ?_) <;> try simp only [*, wpx_of k23_0.eq_1, wpx_of k23_1.eq_1, wpx_of k23_2.eq_1, wpx_of k23_3.eq_1, wpx_of k23_4.eq_1, wpx_of k23_6.eq_1, wpx_of k23_7.eq_1, wpx_of k23_8.eq_1, wpx_of k23_9.eq_1, hq, hr, h8, go_sem])
    all_goals exact ⟨rfl, ⟨_, rfl⟩⟩

set_option maxHeartbeats 1000000 in
theorem nvmFrom_law (H : Heap) (bs : List AVal) (h : ArgShapes Try.prog H 8 [52, 40] bs) : ACalls Try.prog 6 bs H fun v _ => v = .bool true := by
  obtain ⟨a1, l, rfl, h1, h⟩ := argShapes_cons h
  obtain ⟨a2, l, rfl, h2, h⟩ := argShapes_cons h
  obtain rfl := argShapes_nil h
  obtain ⟨oA, ws, rfl, hA⟩ := arg_words h1
  obtain ⟨oK, keep, rfl, hK⟩ := arg_ints h2
  clear h1 h2 h
  have kA := Keeps.of hA
  have kK := Keeps.of hK
  by_cases hbig : ws.length ≤ 400
  case neg =>
    have hgt : ((400 : Int) < (ws.length : Int)) = True := eq_true (by omega)
    refine ACalls.into ok6 (Nat.le_of_ble_eq_true rfl) ?_; (try simp only [c6, wpx_of k6_0.eq_1, wpx_of k6_1.eq_1, wpx_of k6_2.eq_1, wpx_of k6_3.eq_1, wpx_of k6_4.eq_1, wpx_of k6_5.eq_1, wpx_of k6_6.eq_1, wpx_of k6_7.eq_1, wpx_of k6_8.eq_1, wpx_of k6_9.eq_1, wpx_of k6_10.eq_1, hgt, go_sem]); repeat' ((first
    | refine And.intro (Or.inr rfl) ?_
    | ((first | refine cB ?_ ?_ | refine gT ?_ ?_ | refine gF ?_ ?_ | refine dT ?_ ?_ | refine dF ?_ ?_) <;> intro hc)
    | refine awake3_spec ?_) <;> try simp only [*, wpx_of k6_0.eq_1, wpx_of k6_1.eq_1, wpx_of k6_2.eq_1, wpx_of k6_3.eq_1, wpx_of k6_4.eq_1, wpx_of k6_5.eq_1, wpx_of k6_6.eq_1, wpx_of k6_7.eq_1, wpx_of k6_8.eq_1, wpx_of k6_9.eq_1, wpx_of k6_10.eq_1, hgt, go_sem])
  case pos =>
  have hle : ((400 : Int) < (ws.length : Int)) = False := eq_false (by omega)
  have hm : ∀ (off : Bool) (L : Heap), MemG (H ++ rowsO (rowsF ws) :: memG H.length (ws.length / 8) true (.lit (.slice none 0 0)) ⟨rowsF ws, off, 0, 0, []⟩ :: L) (H.length + 1) H.length (ws.length / 8) true (.lit (.slice none 0 0)) ⟨rowsF ws, off, 0, 0, []⟩ := fun off L =>
    ⟨at1, at0, .inl ⟨rfl, rfl⟩, rowsF_len, rowsF_ok, by omega, by simp, by simp, by simp, by simp, by simp⟩
  have hcr : crashM ⟨rowsF ws, false, 0, 0, []⟩ keep = ⟨rowsF ws, true, 0, 0, []⟩ := by unfold crashM; simp [fallR_rowsF]
  have hr : (ws.length : Int).tmod 8 = ((ws.length % 8 : Nat) : Int) := by rw [Int.tmod_eq_emod_of_nonneg (by omega)]; omega
  have hq : IntKind.wrap .i64 ((ws.length : Int).tdiv 8) = ((ws.length / 8 : Nat) : Int) := by
    rw [Int.tdiv_eq_ediv_of_nonneg (by omega)]; exact w64' (by omega) (by omega)
  by_cases hbad : ws.length = 0 ∨ ws.length % 8 ≠ 0
  · by_cases h0 : ws.length = 0
    · have hz : ((ws.length : Int) = 0) = True := eq_true (by omega)
      have hbad' : Hid (ws.length = 0 ∨ ws.length % 8 ≠ 0) := hbad
      clear h0 hbad
      refine ACalls.into ok6 (Nat.le_of_ble_eq_true rfl) ?_; (try simp only [c6, wpx_of k6_0.eq_1, wpx_of k6_1.eq_1, wpx_of k6_2.eq_1, wpx_of k6_3.eq_1, wpx_of k6_4.eq_1, wpx_of k6_5.eq_1, wpx_of k6_6.eq_1, wpx_of k6_7.eq_1, wpx_of k6_8.eq_1, wpx_of k6_9.eq_1, wpx_of k6_10.eq_1, hle, hz, go_sem]); repeat' ((first
    | refine And.intro (Or.inr rfl) ?_
    | ((first | refine cB ?_ ?_ | refine gT ?_ ?_ | refine gF ?_ ?_ | refine dT ?_ ?_ | refine dF ?_ ?_) <;> intro hc)
    | refine awake3_spec ?_
    | refine nvm_From_bad hA hbad' (by omega) ?_) <;> try simp only [*, wpx_of k6_0.eq_1, wpx_of k6_1.eq_1, wpx_of k6_2.eq_1, wpx_of k6_3.eq_1, wpx_of k6_4.eq_1, wpx_of k6_5.eq_1, wpx_of k6_6.eq_1, wpx_of k6_7.eq_1, wpx_of k6_8.eq_1, wpx_of k6_9.eq_1, wpx_of k6_10.eq_1, hle, hz, go_sem])
    · have hz : ((ws.length : Int) = 0) = False := eq_false (by omega)
      have h8 : (((ws.length % 8 : Nat) : Int) = 0) = False := eq_false (by omega)
      have hbad' : Hid (ws.length = 0 ∨ ws.length % 8 ≠ 0) := hbad
      clear h0 hbad
      refine ACalls.into ok6 (Nat.le_of_ble_eq_true rfl) ?_; (try simp only [c6, wpx_of k6_0.eq_1, wpx_of k6_1.eq_1, wpx_of k6_2.eq_1, wpx_of k6_3.eq_1, wpx_of k6_4.eq_1, wpx_of k6_5.eq_1, wpx_of k6_6.eq_1, wpx_of k6_7.eq_1, wpx_of k6_8.eq_1, wpx_of k6_9.eq_1, wpx_of k6_10.eq_1, hle, hz, hr, h8, go_sem]); repeat' ((first
    | refine And.intro (Or.inr rfl) ?_
    | ((first | refine cB ?_ ?_ | refine gT ?_ ?_ | refine gF ?_ ?_ | refine dT ?_ ?_ | refine dF ?_ ?_) <;> intro hc)
    | refine awake3_spec ?_
    | refine nvm_From_bad hA hbad' (by omega) ?_) <;> try simp only [*, wpx_of k6_0.eq_1, wpx_of k6_1.eq_1, wpx_of k6_2.eq_1, wpx_of k6_3.eq_1, wpx_of k6_4.eq_1, wpx_of k6_5.eq_1, wpx_of k6_6.eq_1, wpx_of k6_7.eq_1, wpx_of k6_8.eq_1, wpx_of k6_9.eq_1, wpx_of k6_10.eq_1, hle, hz, hr, h8, go_sem])
  · have h8 : ws.length % 8 = 0 := by omega
    have h0 : 0 < ws.length := by omega
    have hwm := wordsM_rowsF (l := ws) h8
    have h80 : ((ws.length % 8 : Nat) : Int) = 0 := by omega
    have hz : ((ws.length : Int) = 0) = False := eq_false (by omega)
    have h1n : 1 ≤ ws.length / 8 := by omega
    rw [h80] at hr
    clear h80 hbad
    have hl8 : Hid (ws.length ≤ 100000) := by show ws.length ≤ _; omega
    refine ACalls.into ok6 (Nat.le_of_ble_eq_true rfl) ?_; (try simp only [c6, wpx_of k6_0.eq_1, wpx_of k6_1.eq_1, wpx_of k6_2.eq_1, wpx_of k6_3.eq_1, wpx_of k6_4.eq_1, wpx_of k6_5.eq_1, wpx_of k6_6.eq_1, wpx_of k6_7.eq_1, wpx_of k6_8.eq_1, wpx_of k6_9.eq_1, wpx_of k6_10.eq_1, kA, kK, Nat.add_assoc, hle, hr, hz, hq, rowsF_len, hwm, outM_rowsF, hcr, memH_at, List.cons_append, List.nil_append, go_sem]); repeat' ((first
    | refine And.intro (Or.inr rfl) ?_
    | ((first | refine cB ?_ ?_ | refine gT ?_ ?_ | refine gF ?_ ?_ | refine dT ?_ ?_ | refine dF ?_ ?_) <;> intro hc)
    | refine awake3_spec ?_
    | refine nvm_From_spec hA h8 h0 (by omega) ?_
    | refine nvmG_Rows_spec (hm false _) ?_
    | refine nvmG_Out_spec (hm false _) ?_
    | refine nvmG_Words_spec (hm false _) h1n ?_
    | refine nvmG_Words_spec (hm true _) h1n ?_
    | refine nvmG_Crash_spec (hm false _) (.inr ⟨_, _, _, rfl, kK _⟩) (by omega) ?_
    | refine law_words_spec at3 (kA _) hl8 ?_
    | refine law_words_spec at4 (kA _) hl8 ?_
    | refine nvmG_Count_spec (hm true _) ?_
    | refine nvmG_Off_spec (hm true _) ?_) <;> try simp only [*, wpx_of k6_0.eq_1, wpx_of k6_1.eq_1, wpx_of k6_2.eq_1, wpx_of k6_3.eq_1, wpx_of k6_4.eq_1, wpx_of k6_5.eq_1, wpx_of k6_6.eq_1, wpx_of k6_7.eq_1, wpx_of k6_8.eq_1, wpx_of k6_9.eq_1, wpx_of k6_10.eq_1, kA, kK, Nat.add_assoc, hle, hr, hz, hq, rowsF_len, hwm, outM_rowsF, hcr, memH_at, List.cons_append, List.nil_append, go_sem])
end Go.Proofs.Ytfahkkefcdeohaa.Ax
