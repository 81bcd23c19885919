/- Bells: what the program's functions answer. Conditions: none. -/
import Derived.Test.YtipigjckoejfpaaGreatSDoZ
import Derived.Test.YtipigjckoejfpaaGreatSMailZ
import Derived.Test.YtipigjckoejfpaaGreatZPu
set_option linter.unusedSimpArgs false
set_option linter.unusedVariables false
namespace Go.Proofs.YtipigjckoejfpaaGreat.Ax
open Go Go.Ax Go.Ax.M
set_option linter.unusedSimpArgs false
set_option linter.unusedVariables false
section
variable {H : Heap} {K : AVal → Heap → Prop}

theorem shl64 {n : Int} (h0 : 0 ≤ n) (h1 : n < 64) : aShift .shl .u64 1 n = some (.int .u64 (p2 n)) := by
  obtain ⟨k, rfl⟩ : ∃ k : Nat, n = k := ⟨n.toNat, by omega⟩
  have hk : k < 64 := by omega
  have e : min k 64 = k := by omega
  have hp : (2 : Nat) ^ k < 2 ^ 64 := Nat.pow_lt_pow_right (by decide) hk
  have h2 : ((2 : Int) ^ k) = ((2 ^ k : Nat) : Int) := by rw [Int.natCast_pow]; rfl
  simp only [aShift, show ¬ ((k : Int) < 0) by omega, if_false, IntKind.bits, Int.one_mul, p2, Int.toNat_natCast, e, h2]
  congr 2
  generalize (2 : Nat) ^ k = m at *
  simp [IntKind.wrap, IntKind.bits, IntKind.signed]; omega

theorem bell_Do_spec : DoSpec 49 bellM := by
  intro H K s th c oS oT oA oB fS fT rS rT fA fB rA rB hS hT hA hB h h'
  have kT := Keeps.of hT
  have kS := Keeps.of hS
  have kA := Keeps.of hA
  have kB := Keeps.of hB
  have key : ∀ e, bellM s th c = .bad e → K (.tup [.agg [.int .i64 s.geo.threads, .int .i64 s.geo.slots, .int .i64 s.geo.things, .slice oS s.slots.length 0 s.slots.length fS, .slice oT s.things.length 0 s.things.length fT], .agg [.int .i64 e, .int .u64 0, .int .i64 0]]) H := fun e he => by rw [he] at h; exact h rfl
  have hv := fun e => show (AVal.tup [.agg [.int .i64 s.geo.threads, .int .i64 s.geo.slots, .int .i64 s.geo.things, .slice oS s.slots.length 0 s.slots.length fS, .slice oT s.things.length 0 s.things.length fT], .agg [.int .i64 e, .int .u64 0, .int .i64 0]]).refs (fun o => o < H.length) by simp [AVal.refs, refsL]; exact ⟨get_lt hS, get_lt hT⟩
  clear h
  have hroom : (fCap s th c.a).2.2 = 0 → _ := fun h => there_get (fCap_there h)
  have hgood : (fCap s th c.a).2.2 = 0 → sGood s = true := fun h => (fCap_ok h).1.ok.good
  have hsh : (fCap s th c.a).2.2 = 0 → aShift .shl .u64 1 ((fCap s th c.a).2.1.ba.tmod 64) = some (.int .u64 (p2 ((fCap s th c.a).2.1.ba.tmod 64))) := fun h => by
    have hba := cGood_ba (fCap_box h).2.2.2
    have := Int.tmod_lt_of_pos (fCap s th c.a).2.1.ba (show (0 : Int) < 64 by decide)
    exact shl64 (Int.tmod_nonneg _ hba.1) this
  refine ACalls.gc ?_
  refine ACalls.into ok49 (Nat.le_of_ble_eq_true rfl) ?_; (try simp only [c49, wpx_of k49_0.eq_1, wpx_of k49_1.eq_1, wpx_of k49_2.eq_1, wpx_of k49_3.eq_1, wpx_of k49_4.eq_1, wpx_of k49_5.eq_1, wpx_of k49_6.eq_1, wpx_of k49_7.eq_1, wpx_of k49_8.eq_1, wpx_of k49_9.eq_1, wpx_of k49_10.eq_1, wpx_of k49_11.eq_1, wpx_of k49_12.eq_1, wpx_of k49_13.eq_1, wpx_of k49_14.eq_1, wpx_of k49_15.eq_1, wpx_of k49_16.eq_1, wpx_of k49_17.eq_1, wpx_of k49_18.eq_1, stV, slotsO, thingsO, Nat.add_assoc, Cap.cells, hroom, hsh, Option.map_some, List.length_set, go_sem]); repeat' ((first
    | refine And.intro (Or.inr rfl) ?_
    | ((first | refine cB ?_ ?_ | refine gT ?_ ?_ | refine gF ?_ ?_ | refine dT ?_ ?_ | refine dF ?_ ?_) <;> intro hc)
    | refine call_Good_spec (kA _) (kB _) ?_
    | refine find_Cap_spec (kS _) (kT _) (kA _) ?_
    | refine right_Within_spec ?_
    | refine state_Clone_spec (kS _) (kT _) (lS_of (hgood (by assumption))) (lT_of (hgood (by assumption))) (lS0_of (hgood (by assumption))) (lT0_of (hgood (by assumption))) ?_) <;> try simp only [*, wpx_of k49_0.eq_1, wpx_of k49_1.eq_1, wpx_of k49_2.eq_1, wpx_of k49_3.eq_1, wpx_of k49_4.eq_1, wpx_of k49_5.eq_1, wpx_of k49_6.eq_1, wpx_of k49_7.eq_1, wpx_of k49_8.eq_1, wpx_of k49_9.eq_1, wpx_of k49_10.eq_1, wpx_of k49_11.eq_1, wpx_of k49_12.eq_1, wpx_of k49_13.eq_1, wpx_of k49_14.eq_1, wpx_of k49_15.eq_1, wpx_of k49_16.eq_1, wpx_of k49_17.eq_1, wpx_of k49_18.eq_1, stV, slotsO, thingsO, Nat.add_assoc, Cap.cells, hroom, hsh, Option.map_some, List.length_set, go_sem])
  all_goals try exact Gc.old (hv _) (key _ (by (first | (simp only [bellM, *, cond_true, cond_false, Bool.and_true, Bool.true_and, Bool.and_false, Bool.false_and, Bool.or_true, Bool.true_or, Bool.or_false, Bool.false_or, Bool.not_true, Bool.not_false, decide_true, decide_false, go_sem]; done) | (simp_all [bellM]; done) | (simp_all [bellM]; omega) | grind [bellM])))
  case' refine_1.refine_1.refine_2.refine_2.refine_2.refine_2.refine_2 =>
    obtain ⟨t, ht⟩ : ∃ t, t = { s.thing (fCap s th c.a).2.1.th.toNat with word := 0 } := ⟨_, rfl⟩
    have e : bellM s th c = ⟨0, (s.thing (fCap s th c.a).2.1.th.toNat).word, 0, some (boxed s (fCap s th c.a).2.1.th t)⟩ := by rw [ht]; clear h' key; (first | (simp only [bellM, *, cond_true, cond_false, Bool.and_true, Bool.true_and, Bool.and_false, Bool.false_and, Bool.or_true, Bool.true_or, Bool.or_false, Bool.false_or, Bool.not_true, Bool.not_false, decide_true, decide_false, go_sem]; done) | (simp_all [bellM]; done) | (simp_all [bellM]; omega) | grind [bellM])
  case' refine_1.refine_2.refine_2.refine_2.refine_2 =>
    obtain ⟨t, ht⟩ : ∃ t, t = { s.thing (fCap s th c.a).2.1.th.toNat with word := orU (s.thing (fCap s th c.a).2.1.th.toNat).word (p2 ((fCap s th c.a).2.1.ba.tmod 64)) } := ⟨_, rfl⟩
    have e : bellM s th c = ⟨0, 0, 0, some (boxed s (fCap s th c.a).2.1.th t)⟩ := by rw [ht]; clear h' key; (first | (simp only [bellM, *, cond_true, cond_false, Bool.and_true, Bool.true_and, Bool.and_false, Bool.false_and, Bool.or_true, Bool.true_or, Bool.or_false, Bool.false_or, Bool.not_true, Bool.not_false, decide_true, decide_false, go_sem]; done) | (simp_all [bellM]; done) | (simp_all [bellM]; omega) | grind [bellM])
  all_goals
    rw [e] at h'
    have h' := h' _ rfl
    refine Gc.stN (s' := boxed s (fCap s th c.a).2.1.th t) (i := 5) (j := 6) rfl ?_ (fun s' e => by injection e with e; subst e; exact h') (by decide) (by simp [AVal.plain, plains]) rfl (by simp [boxed]) ⟨rfl, rfl, rfl⟩ rfl
    rw [ht]
    simp only [thingsO, boxed, ← things_set, orU]; rfl
end
end Go.Proofs.YtipigjckoejfpaaGreat.Ax
