/- The laws of pages, walked. Conditions: none. -/
import Derived.Test.YtipigjckoejfpaaGreatSLawB20Z
import Derived.Test.YtipigjckoejfpaaGreatSLeafZ
import Derived.Test.YtipigjckoejfpaaGreatSGive2Z
import Derived.Test.YtipigjckoejfpaaGreatSCarveZ
import Derived.Test.YtipigjckoejfpaaGreatSArgZ
set_option linter.unusedSimpArgs false
set_option linter.unusedVariables false
namespace Go.Ax.M
open Go Go.Ax
def KL1 : State := ((carveM S0 0 ⟨1, [0], [3], 5, 0, 0⟩).st).getD S0
def KL2 : State := ((giveM KL1 0 ⟨2, [3], [4], 1, 0, 0⟩).st).getD S0
def KL3 : State := ((giveM KL2 0 ⟨2, [3], [5], 2, 0, 0⟩).st).getD S0
def KL4 : State := ((leafM KL3 0 ⟨11, [3], [], 2, 0, 77⟩).st).getD S0
end Go.Ax.M
namespace Go.Proofs.YtipigjckoejfpaaGreat.Ax
open Go Go.Ax Go.Ax.M
set_option linter.unusedSimpArgs false
set_option linter.unusedVariables false
set_option maxRecDepth 100000
section
variable {H : Heap} {K : AVal → Heap → Prop}
theorem ml_1 : carveM S0 0 ⟨1, [0], [3], 5, 0, 0⟩ = ⟨0, 0, 4, some KL1⟩ := by kernel_rfl
theorem ml_2 : giveM KL1 0 ⟨2, [3], [4], 1, 0, 0⟩ = ⟨0, 0, 0, some KL2⟩ := by kernel_rfl
theorem ml_3 : giveM KL2 0 ⟨2, [3], [5], 2, 0, 0⟩ = ⟨0, 0, 0, some KL3⟩ := by kernel_rfl
theorem ml_4 : leafM KL3 0 ⟨11, [3], [], 2, 0, 77⟩ = ⟨0, 0, 0, some KL4⟩ := by kernel_rfl
theorem ml_5 : leafM KL4 0 ⟨12, [4], [], 2, 0, 0⟩ = ⟨0, 77, 0, none⟩ := by kernel_rfl
attribute [irreducible] KL1 KL2 KL3 KL4

theorem paged_spec (h : K (stV KL3 H.length (H.length + 1) false false) (H ++ [slotsO KL3, thingsO KL3])) : ACalls Tryz.prog 57 [] H K := by
  refine ACalls.gc ?_
  refine ACalls.into ok57 (Nat.le_of_ble_eq_true rfl) ?_; (try simp only [c57, wpx_of k57_0.eq_1, wpx_of k57_1.eq_1, wpx_of k57_2.eq_1, stV, slotsO, thingsO, Nat.add_assoc, Int.cast_ofNat_Int, go_sem]); repeat' ((first
    | refine And.intro (Or.inr rfl) ?_
    | ((first | refine cB ?_ ?_ | refine gT ?_ ?_ | refine gF ?_ ?_ | refine dT ?_ ?_ | refine dF ?_ ?_) <;> intro hc)
    | refine first20_spec ?_
    | refine way20_spec (by first | exact at0 | exact at1 | exact at2 | exact at3 | exact at4 | exact at5 | exact at6 | exact at7 | exact at8 | exact at9 | exact at10 | exact at11 | exact at12 | exact at13 | exact at14 | exact at15 | exact at16 | exact atX rfl) ?_
    | refine DoSpec.som carve_Do_spec (c := ⟨1, [0], [3], 5, 0, 0⟩) ml_1 (by first | exact at0 | exact at1 | exact at2 | exact at3 | exact at4 | exact at5 | exact at6 | exact at7 | exact at8 | exact at9 | exact at10 | exact at11 | exact at12 | exact at13 | exact at14 | exact at15 | exact at16 | exact atX rfl) (by first | exact at0 | exact at1 | exact at2 | exact at3 | exact at4 | exact at5 | exact at6 | exact at7 | exact at8 | exact at9 | exact at10 | exact at11 | exact at12 | exact at13 | exact at14 | exact at15 | exact at16 | exact atX rfl) (by first | exact at0 | exact at1 | exact at2 | exact at3 | exact at4 | exact at5 | exact at6 | exact at7 | exact at8 | exact at9 | exact at10 | exact at11 | exact at12 | exact at13 | exact at14 | exact at15 | exact at16 | exact atX rfl) (by first | exact at0 | exact at1 | exact at2 | exact at3 | exact at4 | exact at5 | exact at6 | exact at7 | exact at8 | exact at9 | exact at10 | exact at11 | exact at12 | exact at13 | exact at14 | exact at15 | exact at16 | exact atX rfl) ?_
    | refine DoSpec.som give_Do_spec (c := ⟨2, [3], [4], 1, 0, 0⟩) ml_2 (by first | exact at0 | exact at1 | exact at2 | exact at3 | exact at4 | exact at5 | exact at6 | exact at7 | exact at8 | exact at9 | exact at10 | exact at11 | exact at12 | exact at13 | exact at14 | exact at15 | exact at16 | exact atX rfl) (by first | exact at0 | exact at1 | exact at2 | exact at3 | exact at4 | exact at5 | exact at6 | exact at7 | exact at8 | exact at9 | exact at10 | exact at11 | exact at12 | exact at13 | exact at14 | exact at15 | exact at16 | exact atX rfl) (by first | exact at0 | exact at1 | exact at2 | exact at3 | exact at4 | exact at5 | exact at6 | exact at7 | exact at8 | exact at9 | exact at10 | exact at11 | exact at12 | exact at13 | exact at14 | exact at15 | exact at16 | exact atX rfl) (by first | exact at0 | exact at1 | exact at2 | exact at3 | exact at4 | exact at5 | exact at6 | exact at7 | exact at8 | exact at9 | exact at10 | exact at11 | exact at12 | exact at13 | exact at14 | exact at15 | exact at16 | exact atX rfl) ?_
    | refine DoSpec.som give_Do_spec (c := ⟨2, [3], [5], 2, 0, 0⟩) ml_3 (by first | exact at0 | exact at1 | exact at2 | exact at3 | exact at4 | exact at5 | exact at6 | exact at7 | exact at8 | exact at9 | exact at10 | exact at11 | exact at12 | exact at13 | exact at14 | exact at15 | exact at16 | exact atX rfl) (by first | exact at0 | exact at1 | exact at2 | exact at3 | exact at4 | exact at5 | exact at6 | exact at7 | exact at8 | exact at9 | exact at10 | exact at11 | exact at12 | exact at13 | exact at14 | exact at15 | exact at16 | exact atX rfl) (by first | exact at0 | exact at1 | exact at2 | exact at3 | exact at4 | exact at5 | exact at6 | exact at7 | exact at8 | exact at9 | exact at10 | exact at11 | exact at12 | exact at13 | exact at14 | exact at15 | exact at16 | exact atX rfl) (by first | exact at0 | exact at1 | exact at2 | exact at3 | exact at4 | exact at5 | exact at6 | exact at7 | exact at8 | exact at9 | exact at10 | exact at11 | exact at12 | exact at13 | exact at14 | exact at15 | exact at16 | exact atX rfl) ?_) <;> try simp only [*, wpx_of k57_0.eq_1, wpx_of k57_1.eq_1, wpx_of k57_2.eq_1, stV, slotsO, thingsO, Nat.add_assoc, Int.cast_ofNat_Int, go_sem])
  exact Gc.state rfl rfl (by decide) h

theorem awake20_spec (h : K (.bool true) H) : ACalls Tryz.prog 56 [] H K := by
  refine ACalls.tidy ?_
  refine ACalls.into ok56 (Nat.le_of_ble_eq_true rfl) ?_; (try simp only [c56, wpx_of k56_0.eq_1, wpx_of k56_1.eq_1, wpx_of k56_2.eq_1, stV, slotsO, thingsO, Nat.add_assoc, Int.cast_ofNat_Int, go_sem]); repeat' ((first
    | refine And.intro (Or.inr rfl) ?_
    | ((first | refine cB ?_ ?_ | refine gT ?_ ?_ | refine gF ?_ ?_ | refine dT ?_ ?_ | refine dF ?_ ?_) <;> intro hc)
    | refine paged_spec ?_
    | refine way20_spec (by first | exact at0 | exact at1 | exact at2 | exact at3 | exact at4 | exact at5 | exact at6 | exact at7 | exact at8 | exact at9 | exact at10 | exact at11 | exact at12 | exact at13 | exact at14 | exact at15 | exact at16 | exact atX rfl) ?_
    | refine leaf_nilSom (a := [3]) (.inl rfl) ml_4 (by first | exact at0 | exact at1 | exact at2 | exact at3 | exact at4 | exact at5 | exact at6 | exact at7 | exact at8 | exact at9 | exact at10 | exact at11 | exact at12 | exact at13 | exact at14 | exact at15 | exact at16 | exact atX rfl) (by first | exact at0 | exact at1 | exact at2 | exact at3 | exact at4 | exact at5 | exact at6 | exact at7 | exact at8 | exact at9 | exact at10 | exact at11 | exact at12 | exact at13 | exact at14 | exact at15 | exact at16 | exact atX rfl) (by first | exact at0 | exact at1 | exact at2 | exact at3 | exact at4 | exact at5 | exact at6 | exact at7 | exact at8 | exact at9 | exact at10 | exact at11 | exact at12 | exact at13 | exact at14 | exact at15 | exact at16 | exact atX rfl) ?_
    | refine leaf_nilNon (a := [4]) (.inr rfl) ml_5 (by first | exact at0 | exact at1 | exact at2 | exact at3 | exact at4 | exact at5 | exact at6 | exact at7 | exact at8 | exact at9 | exact at10 | exact at11 | exact at12 | exact at13 | exact at14 | exact at15 | exact at16 | exact atX rfl) (by first | exact at0 | exact at1 | exact at2 | exact at3 | exact at4 | exact at5 | exact at6 | exact at7 | exact at8 | exact at9 | exact at10 | exact at11 | exact at12 | exact at13 | exact at14 | exact at15 | exact at16 | exact atX rfl) (by first | exact at0 | exact at1 | exact at2 | exact at3 | exact at4 | exact at5 | exact at6 | exact at7 | exact at8 | exact at9 | exact at10 | exact at11 | exact at12 | exact at13 | exact at14 | exact at15 | exact at16 | exact atX rfl) ?_) <;> try simp only [*, wpx_of k56_0.eq_1, wpx_of k56_1.eq_1, wpx_of k56_2.eq_1, stV, slotsO, thingsO, Nat.add_assoc, Int.cast_ofNat_Int, go_sem])
  all_goals first | exact ⟨rfl, _, rfl⟩ | exact tb h ⟨_, rfl⟩ rfl

set_option maxHeartbeats 4000000 in
theorem leafKeeps_law (H : Heap) (bs : List AVal) (h : ArgShapes Tryz.prog H 8 [27, 3, 28, 3, 31] bs) : ACalls Tryz.prog 11 bs H fun v _ => v = .bool true := by
  obtain ⟨a1, l, rfl, h1, h⟩ := argShapes_cons h
  obtain ⟨a2, l, rfl, h2, h⟩ := argShapes_cons h
  obtain ⟨a3, l, rfl, h3, h⟩ := argShapes_cons h
  obtain ⟨a4, l, rfl, h4, h⟩ := argShapes_cons h
  obtain ⟨a5, l, rfl, h5, h⟩ := argShapes_cons h
  obtain rfl := argShapes_nil h
  obtain ⟨s, oS, oT, rfl, hS, hT⟩ := arg_state h1
  obtain ⟨th, rfl, -⟩ := h2.int Tryz.underlying3
  obtain ⟨oA, a, rfl, hA⟩ := arg_ints h3
  obtain ⟨x, rfl, -⟩ := h4.int Tryz.underlying3
  obtain ⟨w, rfl, -⟩ := h5.int Tryz.underlying31
  clear h1 h2 h3 h4 h5 h
  have kS := Keeps.of hS
  have kT := Keeps.of hT
  have kA := Keeps.of hA
  have hn : (leafM s th ⟨11, a, [], x, 0, w⟩).st = none → ((leafM s th ⟨11, a, [], x, 0, w⟩).err = 0) = False := fun h => eq_false (leaf_err h)
  have hss : ∀ s, sSame s s = true := fun s => sSame_iff.2 rfl
  have hbo : ∀ y, (leafM s th ⟨11, a, [], x, 0, w⟩).st = some y → ((leafM s th ⟨11, a, [], x, 0, w⟩).err = 0 ∧ Hid _) := fun y h => ⟨by rw [(leafM_some h).2.2.2.2.1], leaf_keeps h⟩
  refine ACalls.into ok11 (Nat.le_of_ble_eq_true rfl) ?_; (try simp only [c11, wpx_of k11_0.eq_1, wpx_of k11_1.eq_1, wpx_of k11_2.eq_1, wpx_of k11_3.eq_1, wpx_of k11_4.eq_1, wpx_of k11_5.eq_1, wpx_of k11_6.eq_1, wpx_of k11_7.eq_1, wpx_of k11_8.eq_1, wpx_of k11_9.eq_1, wpx_of k11_11.eq_1, wpx_of k11_12.eq_1, wpx_of k11_13.eq_1, wpx_of k11_14.eq_1, wpx_of k11_15.eq_1, wpx_of k11_16.eq_1, wpx_of k11_17.eq_1, wpx_of k11_18.eq_1, kS, kT, stV, slotsO, thingsO, Nat.add_assoc, Res.reply, hn, hss, go_sem]); repeat' ((first
    | refine And.intro (Or.inr rfl) ?_
    | ((first | refine cB ?_ ?_ | refine gT ?_ ?_ | refine gF ?_ ?_ | refine dT ?_ ?_ | refine dF ?_ ?_) <;> intro hc)
    | refine awake20_spec ?_
    | refine way20_spec (kA _) ?_
    | refine heavy20_nil ?_
    | refine state_Good_spec (kS _) (kT _) ?_
    | refine leaf_nil (.inl rfl) (kS _) (kT _) (kA _) (fun hc => ?_) (fun y hc => (fun e => ?_) (hbo y hc))
    | refine state_Same_spec (by first | exact kS _ | exact kT _ | exact kA _ | exact kB _ | exact kC _ | exact kD _ | exact kX _ | exact at0 | exact at1 | exact at2 | exact at3 | exact at4 | exact at5 | exact at6 | exact at7 | exact at8 | exact at9 | exact at10 | exact at11 | exact at12 | exact at13 | exact at14 | exact at15 | exact at16 | exact atX rfl) (by first | exact kS _ | exact kT _ | exact kA _ | exact kB _ | exact kC _ | exact kD _ | exact kX _ | exact at0 | exact at1 | exact at2 | exact at3 | exact at4 | exact at5 | exact at6 | exact at7 | exact at8 | exact at9 | exact at10 | exact at11 | exact at12 | exact at13 | exact at14 | exact at15 | exact at16 | exact atX rfl) (by first | exact kS _ | exact kT _ | exact kA _ | exact kB _ | exact kC _ | exact kD _ | exact kX _ | exact at0 | exact at1 | exact at2 | exact at3 | exact at4 | exact at5 | exact at6 | exact at7 | exact at8 | exact at9 | exact at10 | exact at11 | exact at12 | exact at13 | exact at14 | exact at15 | exact at16 | exact atX rfl) (by first | exact kS _ | exact kT _ | exact kA _ | exact kB _ | exact kC _ | exact kD _ | exact kX _ | exact at0 | exact at1 | exact at2 | exact at3 | exact at4 | exact at5 | exact at6 | exact at7 | exact at8 | exact at9 | exact at10 | exact at11 | exact at12 | exact at13 | exact at14 | exact at15 | exact at16 | exact atX rfl) (lS_of (by assumption)) (lT_of (by assumption)) ?_) <;> try simp only [*, wpx_of k11_0.eq_1, wpx_of k11_1.eq_1, wpx_of k11_2.eq_1, wpx_of k11_3.eq_1, wpx_of k11_4.eq_1, wpx_of k11_5.eq_1, wpx_of k11_6.eq_1, wpx_of k11_7.eq_1, wpx_of k11_8.eq_1, wpx_of k11_9.eq_1, wpx_of k11_11.eq_1, wpx_of k11_12.eq_1, wpx_of k11_13.eq_1, wpx_of k11_14.eq_1, wpx_of k11_15.eq_1, wpx_of k11_16.eq_1, wpx_of k11_17.eq_1, wpx_of k11_18.eq_1, kS, kT, stV, slotsO, thingsO, Nat.add_assoc, Res.reply, hn, hss, go_sem])
  rename_i hg y hc e
  obtain ⟨e0, e⟩ := e
  obtain ⟨e1, e2, e3, e4, invy, x0, x3, e5⟩ : (fCap s th a).2.2 = 0 ∧ 0 ≤ (fCap s th a).1 ∧ sThere s (fCap s th a).2.1.th = true ∧ y.things.length = s.things.length ∧ Inv y ∧ 0 ≤ x ∧ x ≤ 3 ∧ _ := e
  have hb := there_get e3
  have hb0 := of_eq_true hb.1
  have hb1 := of_eq_true hb.2.1
  have hby := things_get (s := y) (k := (fCap s th a).2.1.th.toNat) (by omega)
  have f1 : ((fCap s th a).2.1.th < 0) = False := eq_false (by omega)
  have f2 : ((y.things.length : Int) ≤ (fCap s th a).2.1.th) = False := eq_false (by omega)
  have f3 : ((fCap s th a).1 < 0) = False := eq_false (by omega)
  have f4 : ((fCap s th a).2.1.th < (y.things.length : Int)) = True := eq_true (by omega)
  clear e4 hc
  (try simp only [wpx_of k11_0.eq_1, wpx_of k11_1.eq_1, wpx_of k11_2.eq_1, wpx_of k11_3.eq_1, wpx_of k11_4.eq_1, wpx_of k11_5.eq_1, wpx_of k11_6.eq_1, wpx_of k11_7.eq_1, wpx_of k11_8.eq_1, wpx_of k11_9.eq_1, wpx_of k11_11.eq_1, wpx_of k11_12.eq_1, wpx_of k11_13.eq_1, wpx_of k11_14.eq_1, wpx_of k11_15.eq_1, wpx_of k11_16.eq_1, wpx_of k11_17.eq_1, wpx_of k11_18.eq_1, kS, kT, stV, slotsO, thingsO, Nat.add_assoc, Res.reply, Cap.cells, hb, hby, f1, f2, f3, f4, e1, go_sem]); repeat' ((first
    | refine And.intro (Or.inr rfl) ?_
    | ((first | refine cB ?_ ?_ | refine gT ?_ ?_ | refine gF ?_ ?_ | refine dT ?_ ?_ | refine dF ?_ ?_) <;> intro hc)
    | refine find_Cap_spec (kS _) (kT _) (kA _) ?_) <;> try simp only [*, wpx_of k11_0.eq_1, wpx_of k11_1.eq_1, wpx_of k11_2.eq_1, wpx_of k11_3.eq_1, wpx_of k11_4.eq_1, wpx_of k11_5.eq_1, wpx_of k11_6.eq_1, wpx_of k11_7.eq_1, wpx_of k11_8.eq_1, wpx_of k11_9.eq_1, wpx_of k11_11.eq_1, wpx_of k11_12.eq_1, wpx_of k11_13.eq_1, wpx_of k11_14.eq_1, wpx_of k11_15.eq_1, wpx_of k11_16.eq_1, wpx_of k11_17.eq_1, wpx_of k11_18.eq_1, kS, kT, stV, slotsO, thingsO, Nat.add_assoc, Res.reply, Cap.cells, hb, hby, f1, f2, f3, f4, e1, go_sem])
  refine ALoop.keep [17, 1, 2, 3, 4, 5, 12, 15] ?_; simp only [List.map_cons, List.map_nil, go_sem]
  refine ALoop.acc (fun k G => [(17, .int .i64 (k : Int))]) (fun k G => H ++ _ :: _ :: _ :: _ :: _ :: _ :: _ :: G) (fun k G => True) 4 ?_ (a0 := []) trivial
  intro k G hk _ next
  refine ALoop.unfold ?_
  clear e1 e2 e3 invy e0
  rcases k with _ | _ | _ | _ | _ | k
  · obtain ⟨q1, q2⟩ := e5 0 (by decide) (by decide)
    clear e5
    simp only [tData, show decide ((0 : Int) = 0) = true from rfl, show decide ((0 : Int) = 1) = false from rfl, show decide ((0 : Int) = 2) = false from rfl, cond_true, cond_false, Res.bad] at q1 q2
    by_cases hx : x = 0
    · subst hx
      simp only [if_true] at q1 q2
      rcases q2 with q2 | q2
      all_goals
        (try simp only [wpx_of k11_0.eq_1, wpx_of k11_1.eq_1, wpx_of k11_2.eq_1, wpx_of k11_3.eq_1, wpx_of k11_4.eq_1, wpx_of k11_5.eq_1, wpx_of k11_6.eq_1, wpx_of k11_7.eq_1, wpx_of k11_8.eq_1, wpx_of k11_9.eq_1, wpx_of k11_11.eq_1, wpx_of k11_12.eq_1, wpx_of k11_13.eq_1, wpx_of k11_14.eq_1, wpx_of k11_15.eq_1, wpx_of k11_16.eq_1, wpx_of k11_17.eq_1, wpx_of k11_18.eq_1, wpx_of b11_10.eq_1, kS, kT, stV, slotsO, thingsO, Nat.add_assoc, Int.cast_ofNat_Int, hb, hby, f4, q1, List.cons_append, List.nil_append, go_sem]); repeat' ((first
    | refine And.intro (Or.inr rfl) ?_
    | ((first | refine cB ?_ ?_ | refine gT ?_ ?_ | refine gF ?_ ?_ | refine dT ?_ ?_ | refine dF ?_ ?_) <;> intro hc)
    | refine way20_spec (kA _) ?_
    | refine leaf_nilNon (.inr rfl) q2 (by first | exact at0 | exact at1 | exact at2 | exact at3 | exact at4 | exact at5 | exact at6 | exact at7 | exact at8 | exact at9 | exact at10 | exact at11 | exact at12 | exact at13 | exact at14 | exact at15 | exact at16 | exact atX rfl) (by first | exact at0 | exact at1 | exact at2 | exact at3 | exact at4 | exact at5 | exact at6 | exact at7 | exact at8 | exact at9 | exact at10 | exact at11 | exact at12 | exact at13 | exact at14 | exact at15 | exact at16 | exact atX rfl) (kA _) ?_) <;> try simp only [*, wpx_of k11_0.eq_1, wpx_of k11_1.eq_1, wpx_of k11_2.eq_1, wpx_of k11_3.eq_1, wpx_of k11_4.eq_1, wpx_of k11_5.eq_1, wpx_of k11_6.eq_1, wpx_of k11_7.eq_1, wpx_of k11_8.eq_1, wpx_of k11_9.eq_1, wpx_of k11_11.eq_1, wpx_of k11_12.eq_1, wpx_of k11_13.eq_1, wpx_of k11_14.eq_1, wpx_of k11_15.eq_1, wpx_of k11_16.eq_1, wpx_of k11_17.eq_1, wpx_of k11_18.eq_1, wpx_of b11_10.eq_1, kS, kT, stV, slotsO, thingsO, Nat.add_assoc, Int.cast_ofNat_Int, hb, hby, f4, q1, List.cons_append, List.nil_append, go_sem])
        all_goals first | (refine ALoop.keep [17, 1, 2, 3, 4, 5, 12, 15] ?_; simp only [List.map_cons, List.map_nil, go_sem]; refine next _ (by decide) trivial) | exact absurd q1 (by assumption) | exact absurd q1.symm (by assumption) | (exfalso; simp_all)
    · have hx' : ((0 : Int) = x) = False := eq_false (fun e => hx e.symm)
      simp only [hx', if_false] at q1 q2
      rcases q2 with q2 | q2
      all_goals
        (try simp only [wpx_of k11_0.eq_1, wpx_of k11_1.eq_1, wpx_of k11_2.eq_1, wpx_of k11_3.eq_1, wpx_of k11_4.eq_1, wpx_of k11_5.eq_1, wpx_of k11_6.eq_1, wpx_of k11_7.eq_1, wpx_of k11_8.eq_1, wpx_of k11_9.eq_1, wpx_of k11_11.eq_1, wpx_of k11_12.eq_1, wpx_of k11_13.eq_1, wpx_of k11_14.eq_1, wpx_of k11_15.eq_1, wpx_of k11_16.eq_1, wpx_of k11_17.eq_1, wpx_of k11_18.eq_1, wpx_of b11_10.eq_1, kS, kT, stV, slotsO, thingsO, Nat.add_assoc, Int.cast_ofNat_Int, hb, hby, f4, q1, hx', List.cons_append, List.nil_append, go_sem]); repeat' ((first
    | refine And.intro (Or.inr rfl) ?_
    | ((first | refine cB ?_ ?_ | refine gT ?_ ?_ | refine gF ?_ ?_ | refine dT ?_ ?_ | refine dF ?_ ?_) <;> intro hc)
    | refine way20_spec (kA _) ?_
    | refine leaf_nilNon (.inr rfl) q2 (by first | exact at0 | exact at1 | exact at2 | exact at3 | exact at4 | exact at5 | exact at6 | exact at7 | exact at8 | exact at9 | exact at10 | exact at11 | exact at12 | exact at13 | exact at14 | exact at15 | exact at16 | exact atX rfl) (by first | exact at0 | exact at1 | exact at2 | exact at3 | exact at4 | exact at5 | exact at6 | exact at7 | exact at8 | exact at9 | exact at10 | exact at11 | exact at12 | exact at13 | exact at14 | exact at15 | exact at16 | exact atX rfl) (kA _) ?_) <;> try simp only [*, wpx_of k11_0.eq_1, wpx_of k11_1.eq_1, wpx_of k11_2.eq_1, wpx_of k11_3.eq_1, wpx_of k11_4.eq_1, wpx_of k11_5.eq_1, wpx_of k11_6.eq_1, wpx_of k11_7.eq_1, wpx_of k11_8.eq_1, wpx_of k11_9.eq_1, wpx_of k11_11.eq_1, wpx_of k11_12.eq_1, wpx_of k11_13.eq_1, wpx_of k11_14.eq_1, wpx_of k11_15.eq_1, wpx_of k11_16.eq_1, wpx_of k11_17.eq_1, wpx_of k11_18.eq_1, wpx_of b11_10.eq_1, kS, kT, stV, slotsO, thingsO, Nat.add_assoc, Int.cast_ofNat_Int, hb, hby, f4, q1, hx', List.cons_append, List.nil_append, go_sem])
        all_goals first | (refine ALoop.keep [17, 1, 2, 3, 4, 5, 12, 15] ?_; simp only [List.map_cons, List.map_nil, go_sem]; refine next _ (by decide) trivial) | exact absurd q1 (by assumption) | exact absurd q1.symm (by assumption) | (exfalso; simp_all)
  · obtain ⟨q1, q2⟩ := e5 1 (by decide) (by decide)
    clear e5
    simp only [tData, show decide ((1 : Int) = 0) = false from rfl, show decide ((1 : Int) = 1) = true from rfl, show decide ((1 : Int) = 2) = false from rfl, cond_true, cond_false, Res.bad] at q1 q2
    by_cases hx : x = 1
    · subst hx
      simp only [if_true] at q1 q2
      rcases q2 with q2 | q2
      all_goals
        (try simp only [wpx_of k11_0.eq_1, wpx_of k11_1.eq_1, wpx_of k11_2.eq_1, wpx_of k11_3.eq_1, wpx_of k11_4.eq_1, wpx_of k11_5.eq_1, wpx_of k11_6.eq_1, wpx_of k11_7.eq_1, wpx_of k11_8.eq_1, wpx_of k11_9.eq_1, wpx_of k11_11.eq_1, wpx_of k11_12.eq_1, wpx_of k11_13.eq_1, wpx_of k11_14.eq_1, wpx_of k11_15.eq_1, wpx_of k11_16.eq_1, wpx_of k11_17.eq_1, wpx_of k11_18.eq_1, wpx_of b11_10.eq_1, kS, kT, stV, slotsO, thingsO, Nat.add_assoc, Int.cast_ofNat_Int, hb, hby, f4, q1, List.cons_append, List.nil_append, go_sem]); repeat' ((first
    | refine And.intro (Or.inr rfl) ?_
    | ((first | refine cB ?_ ?_ | refine gT ?_ ?_ | refine gF ?_ ?_ | refine dT ?_ ?_ | refine dF ?_ ?_) <;> intro hc)
    | refine way20_spec (kA _) ?_
    | refine leaf_nilNon (.inr rfl) q2 (by first | exact at0 | exact at1 | exact at2 | exact at3 | exact at4 | exact at5 | exact at6 | exact at7 | exact at8 | exact at9 | exact at10 | exact at11 | exact at12 | exact at13 | exact at14 | exact at15 | exact at16 | exact atX rfl) (by first | exact at0 | exact at1 | exact at2 | exact at3 | exact at4 | exact at5 | exact at6 | exact at7 | exact at8 | exact at9 | exact at10 | exact at11 | exact at12 | exact at13 | exact at14 | exact at15 | exact at16 | exact atX rfl) (kA _) ?_) <;> try simp only [*, wpx_of k11_0.eq_1, wpx_of k11_1.eq_1, wpx_of k11_2.eq_1, wpx_of k11_3.eq_1, wpx_of k11_4.eq_1, wpx_of k11_5.eq_1, wpx_of k11_6.eq_1, wpx_of k11_7.eq_1, wpx_of k11_8.eq_1, wpx_of k11_9.eq_1, wpx_of k11_11.eq_1, wpx_of k11_12.eq_1, wpx_of k11_13.eq_1, wpx_of k11_14.eq_1, wpx_of k11_15.eq_1, wpx_of k11_16.eq_1, wpx_of k11_17.eq_1, wpx_of k11_18.eq_1, wpx_of b11_10.eq_1, kS, kT, stV, slotsO, thingsO, Nat.add_assoc, Int.cast_ofNat_Int, hb, hby, f4, q1, List.cons_append, List.nil_append, go_sem])
        all_goals first | (refine ALoop.keep [17, 1, 2, 3, 4, 5, 12, 15] ?_; simp only [List.map_cons, List.map_nil, go_sem]; refine next _ (by decide) trivial) | exact absurd q1 (by assumption) | exact absurd q1.symm (by assumption) | (exfalso; simp_all)
    · have hx' : ((1 : Int) = x) = False := eq_false (fun e => hx e.symm)
      simp only [hx', if_false] at q1 q2
      rcases q2 with q2 | q2
      all_goals
        (try simp only [wpx_of k11_0.eq_1, wpx_of k11_1.eq_1, wpx_of k11_2.eq_1, wpx_of k11_3.eq_1, wpx_of k11_4.eq_1, wpx_of k11_5.eq_1, wpx_of k11_6.eq_1, wpx_of k11_7.eq_1, wpx_of k11_8.eq_1, wpx_of k11_9.eq_1, wpx_of k11_11.eq_1, wpx_of k11_12.eq_1, wpx_of k11_13.eq_1, wpx_of k11_14.eq_1, wpx_of k11_15.eq_1, wpx_of k11_16.eq_1, wpx_of k11_17.eq_1, wpx_of k11_18.eq_1, wpx_of b11_10.eq_1, kS, kT, stV, slotsO, thingsO, Nat.add_assoc, Int.cast_ofNat_Int, hb, hby, f4, q1, hx', List.cons_append, List.nil_append, go_sem]); repeat' ((first
    | refine And.intro (Or.inr rfl) ?_
    | ((first | refine cB ?_ ?_ | refine gT ?_ ?_ | refine gF ?_ ?_ | refine dT ?_ ?_ | refine dF ?_ ?_) <;> intro hc)
    | refine way20_spec (kA _) ?_
    | refine leaf_nilNon (.inr rfl) q2 (by first | exact at0 | exact at1 | exact at2 | exact at3 | exact at4 | exact at5 | exact at6 | exact at7 | exact at8 | exact at9 | exact at10 | exact at11 | exact at12 | exact at13 | exact at14 | exact at15 | exact at16 | exact atX rfl) (by first | exact at0 | exact at1 | exact at2 | exact at3 | exact at4 | exact at5 | exact at6 | exact at7 | exact at8 | exact at9 | exact at10 | exact at11 | exact at12 | exact at13 | exact at14 | exact at15 | exact at16 | exact atX rfl) (kA _) ?_) <;> try simp only [*, wpx_of k11_0.eq_1, wpx_of k11_1.eq_1, wpx_of k11_2.eq_1, wpx_of k11_3.eq_1, wpx_of k11_4.eq_1, wpx_of k11_5.eq_1, wpx_of k11_6.eq_1, wpx_of k11_7.eq_1, wpx_of k11_8.eq_1, wpx_of k11_9.eq_1, wpx_of k11_11.eq_1, wpx_of k11_12.eq_1, wpx_of k11_13.eq_1, wpx_of k11_14.eq_1, wpx_of k11_15.eq_1, wpx_of k11_16.eq_1, wpx_of k11_17.eq_1, wpx_of k11_18.eq_1, wpx_of b11_10.eq_1, kS, kT, stV, slotsO, thingsO, Nat.add_assoc, Int.cast_ofNat_Int, hb, hby, f4, q1, hx', List.cons_append, List.nil_append, go_sem])
        all_goals first | (refine ALoop.keep [17, 1, 2, 3, 4, 5, 12, 15] ?_; simp only [List.map_cons, List.map_nil, go_sem]; refine next _ (by decide) trivial) | exact absurd q1 (by assumption) | exact absurd q1.symm (by assumption) | (exfalso; simp_all)
  · obtain ⟨q1, q2⟩ := e5 2 (by decide) (by decide)
    clear e5
    simp only [tData, show decide ((2 : Int) = 0) = false from rfl, show decide ((2 : Int) = 1) = false from rfl, show decide ((2 : Int) = 2) = true from rfl, cond_true, cond_false, Res.bad] at q1 q2
    by_cases hx : x = 2
    · subst hx
      simp only [if_true] at q1 q2
      rcases q2 with q2 | q2
      all_goals
        (try simp only [wpx_of k11_0.eq_1, wpx_of k11_1.eq_1, wpx_of k11_2.eq_1, wpx_of k11_3.eq_1, wpx_of k11_4.eq_1, wpx_of k11_5.eq_1, wpx_of k11_6.eq_1, wpx_of k11_7.eq_1, wpx_of k11_8.eq_1, wpx_of k11_9.eq_1, wpx_of k11_11.eq_1, wpx_of k11_12.eq_1, wpx_of k11_13.eq_1, wpx_of k11_14.eq_1, wpx_of k11_15.eq_1, wpx_of k11_16.eq_1, wpx_of k11_17.eq_1, wpx_of k11_18.eq_1, wpx_of b11_10.eq_1, kS, kT, stV, slotsO, thingsO, Nat.add_assoc, Int.cast_ofNat_Int, hb, hby, f4, q1, List.cons_append, List.nil_append, go_sem]); repeat' ((first
    | refine And.intro (Or.inr rfl) ?_
    | ((first | refine cB ?_ ?_ | refine gT ?_ ?_ | refine gF ?_ ?_ | refine dT ?_ ?_ | refine dF ?_ ?_) <;> intro hc)
    | refine way20_spec (kA _) ?_
    | refine leaf_nilNon (.inr rfl) q2 (by first | exact at0 | exact at1 | exact at2 | exact at3 | exact at4 | exact at5 | exact at6 | exact at7 | exact at8 | exact at9 | exact at10 | exact at11 | exact at12 | exact at13 | exact at14 | exact at15 | exact at16 | exact atX rfl) (by first | exact at0 | exact at1 | exact at2 | exact at3 | exact at4 | exact at5 | exact at6 | exact at7 | exact at8 | exact at9 | exact at10 | exact at11 | exact at12 | exact at13 | exact at14 | exact at15 | exact at16 | exact atX rfl) (kA _) ?_) <;> try simp only [*, wpx_of k11_0.eq_1, wpx_of k11_1.eq_1, wpx_of k11_2.eq_1, wpx_of k11_3.eq_1, wpx_of k11_4.eq_1, wpx_of k11_5.eq_1, wpx_of k11_6.eq_1, wpx_of k11_7.eq_1, wpx_of k11_8.eq_1, wpx_of k11_9.eq_1, wpx_of k11_11.eq_1, wpx_of k11_12.eq_1, wpx_of k11_13.eq_1, wpx_of k11_14.eq_1, wpx_of k11_15.eq_1, wpx_of k11_16.eq_1, wpx_of k11_17.eq_1, wpx_of k11_18.eq_1, wpx_of b11_10.eq_1, kS, kT, stV, slotsO, thingsO, Nat.add_assoc, Int.cast_ofNat_Int, hb, hby, f4, q1, List.cons_append, List.nil_append, go_sem])
        all_goals first | (refine ALoop.keep [17, 1, 2, 3, 4, 5, 12, 15] ?_; simp only [List.map_cons, List.map_nil, go_sem]; refine next _ (by decide) trivial) | exact absurd q1 (by assumption) | exact absurd q1.symm (by assumption) | (exfalso; simp_all)
    · have hx' : ((2 : Int) = x) = False := eq_false (fun e => hx e.symm)
      simp only [hx', if_false] at q1 q2
      rcases q2 with q2 | q2
      all_goals
        (try simp only [wpx_of k11_0.eq_1, wpx_of k11_1.eq_1, wpx_of k11_2.eq_1, wpx_of k11_3.eq_1, wpx_of k11_4.eq_1, wpx_of k11_5.eq_1, wpx_of k11_6.eq_1, wpx_of k11_7.eq_1, wpx_of k11_8.eq_1, wpx_of k11_9.eq_1, wpx_of k11_11.eq_1, wpx_of k11_12.eq_1, wpx_of k11_13.eq_1, wpx_of k11_14.eq_1, wpx_of k11_15.eq_1, wpx_of k11_16.eq_1, wpx_of k11_17.eq_1, wpx_of k11_18.eq_1, wpx_of b11_10.eq_1, kS, kT, stV, slotsO, thingsO, Nat.add_assoc, Int.cast_ofNat_Int, hb, hby, f4, q1, hx', List.cons_append, List.nil_append, go_sem]); repeat' ((first
    | refine And.intro (Or.inr rfl) ?_
    | ((first | refine cB ?_ ?_ | refine gT ?_ ?_ | refine gF ?_ ?_ | refine dT ?_ ?_ | refine dF ?_ ?_) <;> intro hc)
    | refine way20_spec (kA _) ?_
    | refine leaf_nilNon (.inr rfl) q2 (by first | exact at0 | exact at1 | exact at2 | exact at3 | exact at4 | exact at5 | exact at6 | exact at7 | exact at8 | exact at9 | exact at10 | exact at11 | exact at12 | exact at13 | exact at14 | exact at15 | exact at16 | exact atX rfl) (by first | exact at0 | exact at1 | exact at2 | exact at3 | exact at4 | exact at5 | exact at6 | exact at7 | exact at8 | exact at9 | exact at10 | exact at11 | exact at12 | exact at13 | exact at14 | exact at15 | exact at16 | exact atX rfl) (kA _) ?_) <;> try simp only [*, wpx_of k11_0.eq_1, wpx_of k11_1.eq_1, wpx_of k11_2.eq_1, wpx_of k11_3.eq_1, wpx_of k11_4.eq_1, wpx_of k11_5.eq_1, wpx_of k11_6.eq_1, wpx_of k11_7.eq_1, wpx_of k11_8.eq_1, wpx_of k11_9.eq_1, wpx_of k11_11.eq_1, wpx_of k11_12.eq_1, wpx_of k11_13.eq_1, wpx_of k11_14.eq_1, wpx_of k11_15.eq_1, wpx_of k11_16.eq_1, wpx_of k11_17.eq_1, wpx_of k11_18.eq_1, wpx_of b11_10.eq_1, kS, kT, stV, slotsO, thingsO, Nat.add_assoc, Int.cast_ofNat_Int, hb, hby, f4, q1, hx', List.cons_append, List.nil_append, go_sem])
        all_goals first | (refine ALoop.keep [17, 1, 2, 3, 4, 5, 12, 15] ?_; simp only [List.map_cons, List.map_nil, go_sem]; refine next _ (by decide) trivial) | exact absurd q1 (by assumption) | exact absurd q1.symm (by assumption) | (exfalso; simp_all)
  · obtain ⟨q1, q2⟩ := e5 3 (by decide) (by decide)
    clear e5
    simp only [tData, show decide ((3 : Int) = 0) = false from rfl, show decide ((3 : Int) = 1) = false from rfl, show decide ((3 : Int) = 2) = false from rfl, cond_true, cond_false, Res.bad] at q1 q2
    by_cases hx : x = 3
    · subst hx
      simp only [if_true] at q1 q2
      rcases q2 with q2 | q2
      all_goals
        (try simp only [wpx_of k11_0.eq_1, wpx_of k11_1.eq_1, wpx_of k11_2.eq_1, wpx_of k11_3.eq_1, wpx_of k11_4.eq_1, wpx_of k11_5.eq_1, wpx_of k11_6.eq_1, wpx_of k11_7.eq_1, wpx_of k11_8.eq_1, wpx_of k11_9.eq_1, wpx_of k11_11.eq_1, wpx_of k11_12.eq_1, wpx_of k11_13.eq_1, wpx_of k11_14.eq_1, wpx_of k11_15.eq_1, wpx_of k11_16.eq_1, wpx_of k11_17.eq_1, wpx_of k11_18.eq_1, wpx_of b11_10.eq_1, kS, kT, stV, slotsO, thingsO, Nat.add_assoc, Int.cast_ofNat_Int, hb, hby, f4, q1, List.cons_append, List.nil_append, go_sem]); repeat' ((first
    | refine And.intro (Or.inr rfl) ?_
    | ((first | refine cB ?_ ?_ | refine gT ?_ ?_ | refine gF ?_ ?_ | refine dT ?_ ?_ | refine dF ?_ ?_) <;> intro hc)
    | refine way20_spec (kA _) ?_
    | refine leaf_nilNon (.inr rfl) q2 (by first | exact at0 | exact at1 | exact at2 | exact at3 | exact at4 | exact at5 | exact at6 | exact at7 | exact at8 | exact at9 | exact at10 | exact at11 | exact at12 | exact at13 | exact at14 | exact at15 | exact at16 | exact atX rfl) (by first | exact at0 | exact at1 | exact at2 | exact at3 | exact at4 | exact at5 | exact at6 | exact at7 | exact at8 | exact at9 | exact at10 | exact at11 | exact at12 | exact at13 | exact at14 | exact at15 | exact at16 | exact atX rfl) (kA _) ?_) <;> try simp only [*, wpx_of k11_0.eq_1, wpx_of k11_1.eq_1, wpx_of k11_2.eq_1, wpx_of k11_3.eq_1, wpx_of k11_4.eq_1, wpx_of k11_5.eq_1, wpx_of k11_6.eq_1, wpx_of k11_7.eq_1, wpx_of k11_8.eq_1, wpx_of k11_9.eq_1, wpx_of k11_11.eq_1, wpx_of k11_12.eq_1, wpx_of k11_13.eq_1, wpx_of k11_14.eq_1, wpx_of k11_15.eq_1, wpx_of k11_16.eq_1, wpx_of k11_17.eq_1, wpx_of k11_18.eq_1, wpx_of b11_10.eq_1, kS, kT, stV, slotsO, thingsO, Nat.add_assoc, Int.cast_ofNat_Int, hb, hby, f4, q1, List.cons_append, List.nil_append, go_sem])
        all_goals first | (refine ALoop.keep [17, 1, 2, 3, 4, 5, 12, 15] ?_; simp only [List.map_cons, List.map_nil, go_sem]; refine next _ (by decide) trivial) | exact absurd q1 (by assumption) | exact absurd q1.symm (by assumption) | (exfalso; simp_all)
    · have hx' : ((3 : Int) = x) = False := eq_false (fun e => hx e.symm)
      simp only [hx', if_false] at q1 q2
      rcases q2 with q2 | q2
      all_goals
        (try simp only [wpx_of k11_0.eq_1, wpx_of k11_1.eq_1, wpx_of k11_2.eq_1, wpx_of k11_3.eq_1, wpx_of k11_4.eq_1, wpx_of k11_5.eq_1, wpx_of k11_6.eq_1, wpx_of k11_7.eq_1, wpx_of k11_8.eq_1, wpx_of k11_9.eq_1, wpx_of k11_11.eq_1, wpx_of k11_12.eq_1, wpx_of k11_13.eq_1, wpx_of k11_14.eq_1, wpx_of k11_15.eq_1, wpx_of k11_16.eq_1, wpx_of k11_17.eq_1, wpx_of k11_18.eq_1, wpx_of b11_10.eq_1, kS, kT, stV, slotsO, thingsO, Nat.add_assoc, Int.cast_ofNat_Int, hb, hby, f4, q1, hx', List.cons_append, List.nil_append, go_sem]); repeat' ((first
    | refine And.intro (Or.inr rfl) ?_
    | ((first | refine cB ?_ ?_ | refine gT ?_ ?_ | refine gF ?_ ?_ | refine dT ?_ ?_ | refine dF ?_ ?_) <;> intro hc)
    | refine way20_spec (kA _) ?_
    | refine leaf_nilNon (.inr rfl) q2 (by first | exact at0 | exact at1 | exact at2 | exact at3 | exact at4 | exact at5 | exact at6 | exact at7 | exact at8 | exact at9 | exact at10 | exact at11 | exact at12 | exact at13 | exact at14 | exact at15 | exact at16 | exact atX rfl) (by first | exact at0 | exact at1 | exact at2 | exact at3 | exact at4 | exact at5 | exact at6 | exact at7 | exact at8 | exact at9 | exact at10 | exact at11 | exact at12 | exact at13 | exact at14 | exact at15 | exact at16 | exact atX rfl) (kA _) ?_) <;> try simp only [*, wpx_of k11_0.eq_1, wpx_of k11_1.eq_1, wpx_of k11_2.eq_1, wpx_of k11_3.eq_1, wpx_of k11_4.eq_1, wpx_of k11_5.eq_1, wpx_of k11_6.eq_1, wpx_of k11_7.eq_1, wpx_of k11_8.eq_1, wpx_of k11_9.eq_1, wpx_of k11_11.eq_1, wpx_of k11_12.eq_1, wpx_of k11_13.eq_1, wpx_of k11_14.eq_1, wpx_of k11_15.eq_1, wpx_of k11_16.eq_1, wpx_of k11_17.eq_1, wpx_of k11_18.eq_1, wpx_of b11_10.eq_1, kS, kT, stV, slotsO, thingsO, Nat.add_assoc, Int.cast_ofNat_Int, hb, hby, f4, q1, hx', List.cons_append, List.nil_append, go_sem])
        all_goals first | (refine ALoop.keep [17, 1, 2, 3, 4, 5, 12, 15] ?_; simp only [List.map_cons, List.map_nil, go_sem]; refine next _ (by decide) trivial) | exact absurd q1 (by assumption) | exact absurd q1.symm (by assumption) | (exfalso; simp_all)
  · (try simp only [wpx_of k11_0.eq_1, wpx_of k11_1.eq_1, wpx_of k11_2.eq_1, wpx_of k11_3.eq_1, wpx_of k11_4.eq_1, wpx_of k11_5.eq_1, wpx_of k11_6.eq_1, wpx_of k11_7.eq_1, wpx_of k11_8.eq_1, wpx_of k11_9.eq_1, wpx_of k11_11.eq_1, wpx_of k11_12.eq_1, wpx_of k11_13.eq_1, wpx_of k11_14.eq_1, wpx_of k11_15.eq_1, wpx_of k11_16.eq_1, wpx_of k11_17.eq_1, wpx_of k11_18.eq_1, wpx_of b11_10.eq_1, Int.cast_ofNat_Int, go_sem]); repeat' ((first
    | refine And.intro (Or.inr rfl) ?_
    | ((first | refine cB ?_ ?_ | refine gT ?_ ?_ | refine gF ?_ ?_ | refine dT ?_ ?_ | refine dF ?_ ?_) <;> intro hc)) <;> try simp only [*, wpx_of k11_0.eq_1, wpx_of k11_1.eq_1, wpx_of k11_2.eq_1, wpx_of k11_3.eq_1, wpx_of k11_4.eq_1, wpx_of k11_5.eq_1, wpx_of k11_6.eq_1, wpx_of k11_7.eq_1, wpx_of k11_8.eq_1, wpx_of k11_9.eq_1, wpx_of k11_11.eq_1, wpx_of k11_12.eq_1, wpx_of k11_13.eq_1, wpx_of k11_14.eq_1, wpx_of k11_15.eq_1, wpx_of k11_16.eq_1, wpx_of k11_17.eq_1, wpx_of k11_18.eq_1, wpx_of b11_10.eq_1, Int.cast_ofNat_Int, go_sem])
  · omega
end
end Go.Proofs.YtipigjckoejfpaaGreat.Ax
