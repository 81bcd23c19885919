/- Copies and moves: what the program's functions answer. Conditions: none. -/
import Derived.Test.YtipigjckoejfpaaGreatZFi
import Derived.Test.YtipigjckoejfpaaGreatZMo
import Derived.Test.YtipigjckoejfpaaGreatZC2
set_option linter.unusedSimpArgs false
set_option linter.unusedVariables false
namespace Go.Proofs.YtipigjckoejfpaaGreat.Ax
open Go Go.Ax Go.Ax.M
set_option linter.unusedSimpArgs false
set_option linter.unusedVariables false
section
variable {H : Heap} {K : AVal → Heap → Prop} {s : State} {oS oT : Nat} {fS fT rS rT : Bool}

theorem lS0_of {s : State} (h : sGood s = true) : 0 < s.slots.length := by have := (stOk_of h).lS; omega
theorem lT0_of {s : State} (h : sGood s = true) : 0 < s.things.length := by have := (stOk_of h).lT; omega

theorem give_ring_spec {c : Cap} {to : Int} (hS : H[oS]? = some (.arr 5 (s.slots.map Slot.cells) rS)) (hT : H[oT]? = some (.arr 13 (s.things.map Thing.cells) rT)) (h : K (.bool (ringM s c to)) H) : ACalls Tryz.prog 212 [.agg [.int .i64 s.geo.threads, .int .i64 s.geo.slots, .int .i64 s.geo.things, .slice oS s.slots.length 0 s.slots.length fS, .slice oT s.things.length 0 s.things.length fT], .agg c.cells, .int .i64 to] H K := by
  have kT := Keeps.of hT
  have kS := Keeps.of hS
  refine ACalls.tidy ?_
  unfold Cap.cells
  refine ACalls.into ok212 (Nat.le_of_ble_eq_true rfl) ?_; (try simp only [c212, wpx_of k212_0.eq_1, go_sem]); repeat' ((first
    | refine And.intro (Or.inr rfl) ?_
    | ((first | refine cB ?_ ?_ | refine gT ?_ ?_ | refine gF ?_ ?_ | refine dT ?_ ?_ | refine dF ?_ ?_) <;> intro hc)
    | refine state_Inside_spec (kS _) (kT _) ?_) <;> try simp only [*, wpx_of k212_0.eq_1, go_sem])
  all_goals (refine tb h (by first | exact ⟨_, rfl⟩ | exact ⟨[], (List.append_nil _).symm⟩ | exact hx | exact hx.app _) ?_; first | (simp only [ringM, *, cond_true, cond_false, Bool.and_true, Bool.true_and, Bool.and_false, Bool.false_and, Bool.or_true, Bool.true_or, Bool.or_false, Bool.false_or, Bool.not_true, Bool.not_false, decide_true, decide_false, go_sem]; done) | (simp_all [ringM]; done) | (simp_all [ringM]; omega) | grind [ringM])

theorem give_Put_spec {c : Cap} {fr to : Int} (hS : H[oS]? = some (.arr 5 (s.slots.map Slot.cells) rS)) (hT : H[oT]? = some (.arr 13 (s.things.map Thing.cells) rT))
    (h : putE s fr to c ≠ 0 → K (.tup [.agg [.int .i64 s.geo.threads, .int .i64 s.geo.slots, .int .i64 s.geo.things, .slice oS s.slots.length 0 s.slots.length fS, .slice oT s.things.length 0 s.things.length fT], .int .i64 (putE s fr to c)]) H) (h' : putE s fr to c = 0 → K (.tup [stV (putS s fr to c) H.length (H.length + 1) false false, .int .i64 0]) (H ++ [slotsO (putS s fr to c), thingsO (putS s fr to c)])) :
    ACalls Tryz.prog 178 [.agg [.int .i64 s.geo.threads, .int .i64 s.geo.slots, .int .i64 s.geo.things, .slice oS s.slots.length 0 s.slots.length fS, .slice oT s.things.length 0 s.things.length fT], .int .i64 fr, .int .i64 to, .agg c.cells] H K := by
  have kT := Keeps.of hT
  have kS := Keeps.of hS
  have hg : ¬ fr < 0 → ¬ (s.slots.length : Int) ≤ fr → (0 ≤ fr) = True ∧ (fr < (s.slots.length : Int)) = True := fun h1 h2 => ⟨eq_true (by omega), eq_true (by omega)⟩
  have hg1 : ¬ fr < 0 → ¬ (s.slots.length : Int) ≤ fr → _ := fun h1 h2 => slots_get (s := s) (k := fr.toNat) (by omega)
  have hg2 : ¬ to < 0 → ¬ (s.slots.length : Int) ≤ to → (0 ≤ to) = True ∧ (to < (s.slots.length : Int)) = True := fun h1 h2 => ⟨eq_true (by omega), eq_true (by omega)⟩
  have hg3 : ¬ to < 0 → ¬ (s.slots.length : Int) ≤ to → _ := fun h1 h2 => slots_get (s := s) (k := to.toNat) (by omega)
  have key : ∀ e, putE s fr to c = e → e ≠ 0 → K (.tup [.agg [.int .i64 s.geo.threads, .int .i64 s.geo.slots, .int .i64 s.geo.things, .slice oS s.slots.length 0 s.slots.length fS, .slice oT s.things.length 0 s.things.length fT], .int .i64 e]) H := fun e he hn => he ▸ h (he ▸ hn)
  have hv := fun e => show (AVal.tup [.agg [.int .i64 s.geo.threads, .int .i64 s.geo.slots, .int .i64 s.geo.things, .slice oS s.slots.length 0 s.slots.length fS, .slice oT s.things.length 0 s.things.length fT], .int .i64 e]).refs (fun o => o < H.length) by simp [AVal.refs, refsL]; exact ⟨get_lt hS, get_lt hT⟩
  clear h
  refine ACalls.gc ?_
  unfold Cap.cells
  refine ACalls.into ok178 (Nat.le_of_ble_eq_true rfl) ?_; (try simp only [c178, wpx_of k178_0.eq_1, wpx_of k178_1.eq_1, wpx_of k178_2.eq_1, wpx_of k178_3.eq_1, wpx_of k178_4.eq_1, wpx_of k178_5.eq_1, wpx_of k178_6.eq_1, wpx_of k178_7.eq_1, wpx_of k178_8.eq_1, wpx_of k178_9.eq_1, wpx_of k178_10.eq_1, wpx_of k178_11.eq_1, wpx_of k178_12.eq_1, wpx_of k178_13.eq_1, wpx_of k178_14.eq_1, wpx_of k178_15.eq_1, wpx_of k178_16.eq_1, kS, kT, hg, hg1, hg2, hg3, go_sem]); repeat' ((first
    | refine And.intro (Or.inr rfl) ?_
    | ((first | refine cB ?_ ?_ | refine gT ?_ ?_ | refine gF ?_ ?_ | refine dT ?_ ?_ | refine dF ?_ ?_) <;> intro hc)
    | refine state_Good_spec (kS _) (kT _) ?_
    | refine cap_Good_x ?_
    | refine cap_None_x ?_
    | refine state_Owner_spec (kS _) (kT _) ?_
    | refine cap_Less_x ?_
    | refine give_ring_spec (c := c) (kS _) (kT _) ?_) <;> try simp only [*, wpx_of k178_0.eq_1, wpx_of k178_1.eq_1, wpx_of k178_2.eq_1, wpx_of k178_3.eq_1, wpx_of k178_4.eq_1, wpx_of k178_5.eq_1, wpx_of k178_6.eq_1, wpx_of k178_7.eq_1, wpx_of k178_8.eq_1, wpx_of k178_9.eq_1, wpx_of k178_10.eq_1, wpx_of k178_11.eq_1, wpx_of k178_12.eq_1, wpx_of k178_13.eq_1, wpx_of k178_14.eq_1, wpx_of k178_15.eq_1, wpx_of k178_16.eq_1, kS, kT, hg, hg1, hg2, hg3, go_sem])
  case' refine_2.refine_1.refine_1.refine_1.refine_1.refine_1.refine_2.refine_2.refine_2.refine_2.refine_2.refine_2.refine_2 =>
    have e : putE s fr to c = 0 := by (first | (simp only [putE, *, cond_true, cond_false, Bool.and_true, Bool.true_and, Bool.and_false, Bool.false_and, Bool.or_true, Bool.true_or, Bool.or_false, Bool.false_or, Bool.not_true, Bool.not_false, decide_true, decide_false, go_sem]; done) | (simp_all [putE]; done) | (simp_all [putE]; omega) | grind [putE])
    have h' := h' e
    clear key
    (try simp only [wpx_of k178_0.eq_1, wpx_of k178_1.eq_1, wpx_of k178_2.eq_1, wpx_of k178_3.eq_1, wpx_of k178_4.eq_1, wpx_of k178_5.eq_1, wpx_of k178_6.eq_1, wpx_of k178_7.eq_1, wpx_of k178_8.eq_1, wpx_of k178_9.eq_1, wpx_of k178_10.eq_1, wpx_of k178_11.eq_1, wpx_of k178_12.eq_1, wpx_of k178_13.eq_1, wpx_of k178_14.eq_1, wpx_of k178_15.eq_1, wpx_of k178_16.eq_1, kS, kT, hg, hg1, hg2, hg3, stV, slotsO, thingsO, List.length_set, go_sem]); repeat' ((first
    | refine And.intro (Or.inr rfl) ?_
    | ((first | refine cB ?_ ?_ | refine gT ?_ ?_ | refine gF ?_ ?_ | refine dT ?_ ?_ | refine dF ?_ ?_) <;> intro hc)
    | refine state_Clone_spec (kS _) (kT _) (lS_of (by assumption)) (lT_of (by assumption)) (lS0_of (by assumption)) (lT0_of (by assumption)) ?_) <;> try simp only [*, wpx_of k178_0.eq_1, wpx_of k178_1.eq_1, wpx_of k178_2.eq_1, wpx_of k178_3.eq_1, wpx_of k178_4.eq_1, wpx_of k178_5.eq_1, wpx_of k178_6.eq_1, wpx_of k178_7.eq_1, wpx_of k178_8.eq_1, wpx_of k178_9.eq_1, wpx_of k178_10.eq_1, wpx_of k178_11.eq_1, wpx_of k178_12.eq_1, wpx_of k178_13.eq_1, wpx_of k178_14.eq_1, wpx_of k178_15.eq_1, wpx_of k178_16.eq_1, kS, kT, hg, hg1, hg2, hg3, stV, slotsO, thingsO, List.length_set, go_sem])
    have el : (putS s fr to c).slots.length = s.slots.length := by simp [putS]
    rw [← el]
    exact Gc.stateT (s := putS s fr to c) (i := 3) (j := 4) (by simp only [slotsO, putS, ← slots_set]; rfl) rfl (by decide) (by simp [AVal.plain]) h'
  all_goals exact Gc.old (hv _) (key _ (by (first | (simp only [putE, *, cond_true, cond_false, Bool.and_true, Bool.true_and, Bool.and_false, Bool.false_and, Bool.or_true, Bool.true_or, Bool.or_false, Bool.false_or, Bool.not_true, Bool.not_false, decide_true, decide_false, go_sem]; done) | (simp_all [putE]; done) | (simp_all [putE]; omega) | grind [putE])) (by decide))

theorem give_Put_x {x0 x1 x2 x3 fr to : Int} (hS : H[oS]? = some (.arr 5 (s.slots.map Slot.cells) rS)) (hT : H[oT]? = some (.arr 13 (s.things.map Thing.cells) rT))
    (h : putE s fr to ⟨x0, x1, x2, x3⟩ ≠ 0 → K (.tup [.agg [.int .i64 s.geo.threads, .int .i64 s.geo.slots, .int .i64 s.geo.things, .slice oS s.slots.length 0 s.slots.length fS, .slice oT s.things.length 0 s.things.length fT], .int .i64 (putE s fr to ⟨x0, x1, x2, x3⟩)]) H)
    (h' : putE s fr to ⟨x0, x1, x2, x3⟩ = 0 → K (.tup [stV (putS s fr to ⟨x0, x1, x2, x3⟩) H.length (H.length + 1) false false, .int .i64 0]) (H ++ [slotsO (putS s fr to ⟨x0, x1, x2, x3⟩), thingsO (putS s fr to ⟨x0, x1, x2, x3⟩)])) :
    ACalls Tryz.prog 178 [.agg [.int .i64 s.geo.threads, .int .i64 s.geo.slots, .int .i64 s.geo.things, .slice oS s.slots.length 0 s.slots.length fS, .slice oT s.things.length 0 s.things.length fT], .int .i64 fr, .int .i64 to, .agg [.int .i64 x0, .int .i64 x1, .int .i64 x2, .int .i64 x3]] H K := give_Put_spec (c := ⟨x0, x1, x2, x3⟩) hS hT h h'

theorem putS_things {fr to : Int} {c : Cap} : (putS s fr to c).things = s.things := rfl
theorem putS_geo {fr to : Int} {c : Cap} : (putS s fr to c).geo = s.geo := rfl
theorem putS_len {fr to : Int} {c : Cap} : (putS s fr to c).slots.length = s.slots.length := by simp [putS]

end
end Go.Proofs.YtipigjckoejfpaaGreat.Ax
