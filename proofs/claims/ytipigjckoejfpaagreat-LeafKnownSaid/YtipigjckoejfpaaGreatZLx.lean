/- Texts put behind one another: LLeafA, LLeafT. Conditions: none. -/
import Derived.Test.YtipigjckoejfpaaGreatSLawB20Z
import Derived.Test.YtipigjckoejfpaaGreatZLf
import Derived.Test.YtipigjckoejfpaaGreatZGv
import Derived.Test.YtipigjckoejfpaaGreatSArgZ
import Derived.Test.YtipigjckoejfpaaGreatZPu
set_option linter.unusedSimpArgs false
set_option linter.unusedVariables false
/- A page, two copies of it: what the parts of chapter 20's laws yield. Conditions: none. -/
namespace Go.Ax.M
open Go Go.Ax
def KL1 : State := ((carveM S0 0 ⟨1, [0], [3], 5, 0, 0⟩).st).getD S0
def KL2 : State := ((giveM KL1 0 ⟨2, [3], [4], 1, 0, 0⟩).st).getD S0
def KL3 : State := ((giveM KL2 0 ⟨2, [3], [5], 2, 0, 0⟩).st).getD S0
def KL4 : State := ((leafM KL3 0 ⟨11, [3], [], 2, 0, 77⟩).st).getD S0
end Go.Ax.M
namespace Go.Proofs.YtipigjckoejfpaaGreat.Ax
open Go Go.Ax Go.Ax.M
set_option maxRecDepth 100000
section
variable {H : Heap} {K : AVal → Heap → Prop}
theorem ml_1 : carveM S0 0 ⟨1, [0], [3], 5, 0, 0⟩ = ⟨0, 0, 4, some KL1⟩ := by kernel_rfl
theorem ml_2 : giveM KL1 0 ⟨2, [3], [4], 1, 0, 0⟩ = ⟨0, 0, 0, some KL2⟩ := by kernel_rfl
theorem ml_3 : giveM KL2 0 ⟨2, [3], [5], 2, 0, 0⟩ = ⟨0, 0, 0, some KL3⟩ := by kernel_rfl
theorem ml_4 : leafM KL3 0 ⟨11, [3], [], 2, 0, 77⟩ = ⟨0, 0, 0, some KL4⟩ := by kernel_rfl
theorem ml_5 : leafM KL4 0 ⟨12, [4], [], 2, 0, 0⟩ = ⟨0, 77, 0, none⟩ := by kernel_rfl
attribute [irreducible] KL1 KL2 KL3 KL4

theorem paged_spec (h : K (stV KL3 H.length (H.length + 1) false false) (H ++ [slotsO KL3, thingsO KL3])) : ACalls Tryz.prog 57 [] H K := by
  refine ACalls.gc ?_
  refine ACalls.into ok57 (Nat.le_of_ble_eq_true rfl) ?_; (try simp only [c57, wpx_of k57_0.eq_1, wpx_of k57_1.eq_1, wpx_of k57_2.eq_1, stV, slotsO, thingsO, Nat.add_assoc, Int.cast_ofNat_Int, go_sem]); repeat' ((first
    | refine And.intro (Or.inr rfl) ?_
    | ((first | refine cB ?_ ?_ | refine gT ?_ ?_ | refine gF ?_ ?_ | refine dT ?_ ?_ | refine dF ?_ ?_) <;> intro hc)
    | refine first20_spec ?_
    | refine way20_spec (by first | exact at0 | exact at1 | exact at2 | exact at3 | exact at4 | exact at5 | exact at6 | exact at7 | exact at8 | exact at9 | exact at10 | exact at11 | exact at12 | exact at13 | exact at14 | exact at15 | exact at16 | exact atX rfl) ?_
    | refine DoSpec.som carve_Do_spec (c := ⟨1, [0], [3], 5, 0, 0⟩) ml_1 (by first | exact at0 | exact at1 | exact at2 | exact at3 | exact at4 | exact at5 | exact at6 | exact at7 | exact at8 | exact at9 | exact at10 | exact at11 | exact at12 | exact at13 | exact at14 | exact at15 | exact at16 | exact atX rfl) (by first | exact at0 | exact at1 | exact at2 | exact at3 | exact at4 | exact at5 | exact at6 | exact at7 | exact at8 | exact at9 | exact at10 | exact at11 | exact at12 | exact at13 | exact at14 | exact at15 | exact at16 | exact atX rfl) (by first | exact at0 | exact at1 | exact at2 | exact at3 | exact at4 | exact at5 | exact at6 | exact at7 | exact at8 | exact at9 | exact at10 | exact at11 | exact at12 | exact at13 | exact at14 | exact at15 | exact at16 | exact atX rfl) (by first | exact at0 | exact at1 | exact at2 | exact at3 | exact at4 | exact at5 | exact at6 | exact at7 | exact at8 | exact at9 | exact at10 | exact at11 | exact at12 | exact at13 | exact at14 | exact at15 | exact at16 | exact atX rfl) ?_
    | refine DoSpec.som give_Do_spec (c := ⟨2, [3], [4], 1, 0, 0⟩) ml_2 (by first | exact at0 | exact at1 | exact at2 | exact at3 | exact at4 | exact at5 | exact at6 | exact at7 | exact at8 | exact at9 | exact at10 | exact at11 | exact at12 | exact at13 | exact at14 | exact at15 | exact at16 | exact atX rfl) (by first | exact at0 | exact at1 | exact at2 | exact at3 | exact at4 | exact at5 | exact at6 | exact at7 | exact at8 | exact at9 | exact at10 | exact at11 | exact at12 | exact at13 | exact at14 | exact at15 | exact at16 | exact atX rfl) (by first | exact at0 | exact at1 | exact at2 | exact at3 | exact at4 | exact at5 | exact at6 | exact at7 | exact at8 | exact at9 | exact at10 | exact at11 | exact at12 | exact at13 | exact at14 | exact at15 | exact at16 | exact atX rfl) (by first | exact at0 | exact at1 | exact at2 | exact at3 | exact at4 | exact at5 | exact at6 | exact at7 | exact at8 | exact at9 | exact at10 | exact at11 | exact at12 | exact at13 | exact at14 | exact at15 | exact at16 | exact atX rfl) ?_
    | refine DoSpec.som give_Do_spec (c := ⟨2, [3], [5], 2, 0, 0⟩) ml_3 (by first | exact at0 | exact at1 | exact at2 | exact at3 | exact at4 | exact at5 | exact at6 | exact at7 | exact at8 | exact at9 | exact at10 | exact at11 | exact at12 | exact at13 | exact at14 | exact at15 | exact at16 | exact atX rfl) (by first | exact at0 | exact at1 | exact at2 | exact at3 | exact at4 | exact at5 | exact at6 | exact at7 | exact at8 | exact at9 | exact at10 | exact at11 | exact at12 | exact at13 | exact at14 | exact at15 | exact at16 | exact atX rfl) (by first | exact at0 | exact at1 | exact at2 | exact at3 | exact at4 | exact at5 | exact at6 | exact at7 | exact at8 | exact at9 | exact at10 | exact at11 | exact at12 | exact at13 | exact at14 | exact at15 | exact at16 | exact atX rfl) (by first | exact at0 | exact at1 | exact at2 | exact at3 | exact at4 | exact at5 | exact at6 | exact at7 | exact at8 | exact at9 | exact at10 | exact at11 | exact at12 | exact at13 | exact at14 | exact at15 | exact at16 | exact atX rfl) ?_) <;> try simp only [*, wpx_of k57_0.eq_1, wpx_of k57_1.eq_1, wpx_of k57_2.eq_1, stV, slotsO, thingsO, Nat.add_assoc, Int.cast_ofNat_Int, go_sem])
  exact Gc.state rfl rfl (by decide) h

theorem awake20_spec (h : K (.bool true) H) : ACalls Tryz.prog 56 [] H K := by
  refine ACalls.tidy ?_
  refine ACalls.into ok56 (Nat.le_of_ble_eq_true rfl) ?_; (try simp only [c56, wpx_of k56_0.eq_1, wpx_of k56_1.eq_1, wpx_of k56_2.eq_1, stV, slotsO, thingsO, Nat.add_assoc, Int.cast_ofNat_Int, go_sem]); repeat' ((first
    | refine And.intro (Or.inr rfl) ?_
    | ((first | refine cB ?_ ?_ | refine gT ?_ ?_ | refine gF ?_ ?_ | refine dT ?_ ?_ | refine dF ?_ ?_) <;> intro hc)
    | refine paged_spec ?_
    | refine way20_spec (by first | exact at0 | exact at1 | exact at2 | exact at3 | exact at4 | exact at5 | exact at6 | exact at7 | exact at8 | exact at9 | exact at10 | exact at11 | exact at12 | exact at13 | exact at14 | exact at15 | exact at16 | exact atX rfl) ?_
    | refine leaf_nilSom (a := [3]) (.inl rfl) ml_4 (by first | exact at0 | exact at1 | exact at2 | exact at3 | exact at4 | exact at5 | exact at6 | exact at7 | exact at8 | exact at9 | exact at10 | exact at11 | exact at12 | exact at13 | exact at14 | exact at15 | exact at16 | exact atX rfl) (by first | exact at0 | exact at1 | exact at2 | exact at3 | exact at4 | exact at5 | exact at6 | exact at7 | exact at8 | exact at9 | exact at10 | exact at11 | exact at12 | exact at13 | exact at14 | exact at15 | exact at16 | exact atX rfl) (by first | exact at0 | exact at1 | exact at2 | exact at3 | exact at4 | exact at5 | exact at6 | exact at7 | exact at8 | exact at9 | exact at10 | exact at11 | exact at12 | exact at13 | exact at14 | exact at15 | exact at16 | exact atX rfl) ?_
    | refine leaf_nilNon (a := [4]) (.inr rfl) ml_5 (by first | exact at0 | exact at1 | exact at2 | exact at3 | exact at4 | exact at5 | exact at6 | exact at7 | exact at8 | exact at9 | exact at10 | exact at11 | exact at12 | exact at13 | exact at14 | exact at15 | exact at16 | exact atX rfl) (by first | exact at0 | exact at1 | exact at2 | exact at3 | exact at4 | exact at5 | exact at6 | exact at7 | exact at8 | exact at9 | exact at10 | exact at11 | exact at12 | exact at13 | exact at14 | exact at15 | exact at16 | exact atX rfl) (by first | exact at0 | exact at1 | exact at2 | exact at3 | exact at4 | exact at5 | exact at6 | exact at7 | exact at8 | exact at9 | exact at10 | exact at11 | exact at12 | exact at13 | exact at14 | exact at15 | exact at16 | exact atX rfl) ?_) <;> try simp only [*, wpx_of k56_0.eq_1, wpx_of k56_1.eq_1, wpx_of k56_2.eq_1, stV, slotsO, thingsO, Nat.add_assoc, Int.cast_ofNat_Int, go_sem])
  all_goals first | exact ⟨rfl, _, rfl⟩ | exact tb h ⟨_, rfl⟩ rfl

end
end Go.Proofs.YtipigjckoejfpaaGreat.Ax

/- The laws of what is told of pages, walked. Conditions: none. -/
namespace Go.Proofs.YtipigjckoejfpaaGreat.Ax
open Go Go.Ax Go.Ax.M
set_option maxRecDepth 100000
section
variable {H : Heap} {K : AVal → Heap → Prop}
theorem mu_a : leafM KL3 0 ⟨11, [4], [], 2, 0, 77⟩ = ⟨6, 0, 0, none⟩ := by kernel_rfl
theorem mu_b : leafM KL3 0 ⟨12, [5], [], 2, 0, 0⟩ = ⟨6, 0, 0, none⟩ := by kernel_rfl
theorem mu_c : leafM KL3 0 ⟨12, [1], [], 2, 0, 0⟩ = ⟨7, 0, 0, none⟩ := by kernel_rfl
theorem mu_d : leafM KL3 0 ⟨13, [6], [], 0, 0, 0⟩ = ⟨4, 0, 0, none⟩ := by kernel_rfl
theorem mu_e : leafM KL3 0 ⟨13, [4], [], 0, 0, 0⟩ = ⟨0, cWord ⟨5, 4, 1, 0⟩, 2, none⟩ := by kernel_rfl
theorem mu_f : leafM KL3 0 ⟨13, [0], [], 0, 0, 0⟩ = ⟨0, cWord ⟨1, 0, 7, 0⟩, 0, none⟩ := by kernel_rfl
theorem mu_g : leafM KL3 0 ⟨12, [3], [], 4, 0, 0⟩ = ⟨1, 0, 0, none⟩ := by kernel_rfl
theorem mu_w : cGood ⟨5, 4, 1, 0⟩ = true := by kernel_rfl
theorem mu_s : sSame KL3 KL3 = true := sSame_iff.2 rfl
theorem mu_l : ((KL3.things.length : Int) = 16) = True ∧ (4 < (KL3.things.length : Int)) = True := by
  have a : KL3.things.length = 16 := by kernel_rfl
  rw [a]; simp
theorem mu_t : (KL3.things.map Thing.cells)[4]? = some [.int .i64 5, .int .i64 0, .int .i64 0, .int .i64 0, .int .i64 0, .int .i64 0, .int .i64 0, .bool false, .int .u64 0, .int .u64 0, .int .u64 0, .int .u64 0, .int .u64 0] := by kernel_rfl
theorem mu_n : KL3.slots.length ≤ 1000 ∧ KL3.things.length ≤ 1000 := ⟨Nat.le_of_ble_eq_true (by kernel_rfl), Nat.le_of_ble_eq_true (by kernel_rfl)⟩

set_option maxHeartbeats 4000000 in
theorem leafKnown_law : ACalls Tryz.prog 9 [] H fun v _ => v = .bool true := by
  refine ACalls.into ok9 (Nat.le_of_ble_eq_true rfl) ?_; (try simp only [c9, wpx_of k9_0.eq_1, wpx_of k9_1.eq_1, wpx_of k9_2.eq_1, wpx_of k9_3.eq_1, wpx_of k9_4.eq_1, wpx_of k9_5.eq_1, wpx_of k9_6.eq_1, wpx_of k9_7.eq_1, wpx_of k9_8.eq_1, wpx_of k9_9.eq_1, wpx_of k9_10.eq_1, wpx_of k9_11.eq_1, stV, slotsO, thingsO, Nat.add_assoc, mu_l, mu_t, mu_s, Int.cast_ofNat_Int, go_sem]); repeat' ((first
    | refine And.intro (Or.inr rfl) ?_
    | ((first | refine cB ?_ ?_ | refine gT ?_ ?_ | refine gF ?_ ?_ | refine dT ?_ ?_ | refine dF ?_ ?_) <;> intro hc)
    | refine awake20_spec ?_
    | refine paged_spec ?_
    | refine way20_spec (by first | exact at0 | exact at1 | exact at2 | exact at3 | exact at4 | exact at5 | exact at6 | exact at7 | exact at8 | exact at9 | exact at10 | exact at11 | exact at12 | exact at13 | exact at14 | exact at15 | exact at16 | exact atX rfl) ?_
    | refine leaf_nilNon (a := [4]) (.inl rfl) mu_a (by first | exact at0 | exact at1 | exact at2 | exact at3 | exact at4 | exact at5 | exact at6 | exact at7 | exact at8 | exact at9 | exact at10 | exact at11 | exact at12 | exact at13 | exact at14 | exact at15 | exact at16 | exact atX rfl) (by first | exact at0 | exact at1 | exact at2 | exact at3 | exact at4 | exact at5 | exact at6 | exact at7 | exact at8 | exact at9 | exact at10 | exact at11 | exact at12 | exact at13 | exact at14 | exact at15 | exact at16 | exact atX rfl) (by first | exact at0 | exact at1 | exact at2 | exact at3 | exact at4 | exact at5 | exact at6 | exact at7 | exact at8 | exact at9 | exact at10 | exact at11 | exact at12 | exact at13 | exact at14 | exact at15 | exact at16 | exact atX rfl) ?_
    | refine leaf_nilNon (a := [5]) (.inr rfl) mu_b (by first | exact at0 | exact at1 | exact at2 | exact at3 | exact at4 | exact at5 | exact at6 | exact at7 | exact at8 | exact at9 | exact at10 | exact at11 | exact at12 | exact at13 | exact at14 | exact at15 | exact at16 | exact atX rfl) (by first | exact at0 | exact at1 | exact at2 | exact at3 | exact at4 | exact at5 | exact at6 | exact at7 | exact at8 | exact at9 | exact at10 | exact at11 | exact at12 | exact at13 | exact at14 | exact at15 | exact at16 | exact atX rfl) (by first | exact at0 | exact at1 | exact at2 | exact at3 | exact at4 | exact at5 | exact at6 | exact at7 | exact at8 | exact at9 | exact at10 | exact at11 | exact at12 | exact at13 | exact at14 | exact at15 | exact at16 | exact atX rfl) ?_
    | refine leaf_nilNon (a := [1]) (.inr rfl) mu_c (by first | exact at0 | exact at1 | exact at2 | exact at3 | exact at4 | exact at5 | exact at6 | exact at7 | exact at8 | exact at9 | exact at10 | exact at11 | exact at12 | exact at13 | exact at14 | exact at15 | exact at16 | exact atX rfl) (by first | exact at0 | exact at1 | exact at2 | exact at3 | exact at4 | exact at5 | exact at6 | exact at7 | exact at8 | exact at9 | exact at10 | exact at11 | exact at12 | exact at13 | exact at14 | exact at15 | exact at16 | exact atX rfl) (by first | exact at0 | exact at1 | exact at2 | exact at3 | exact at4 | exact at5 | exact at6 | exact at7 | exact at8 | exact at9 | exact at10 | exact at11 | exact at12 | exact at13 | exact at14 | exact at15 | exact at16 | exact atX rfl) ?_
    | refine leaf_tellNon (a := [6]) mu_d (by first | exact at0 | exact at1 | exact at2 | exact at3 | exact at4 | exact at5 | exact at6 | exact at7 | exact at8 | exact at9 | exact at10 | exact at11 | exact at12 | exact at13 | exact at14 | exact at15 | exact at16 | exact atX rfl) (by first | exact at0 | exact at1 | exact at2 | exact at3 | exact at4 | exact at5 | exact at6 | exact at7 | exact at8 | exact at9 | exact at10 | exact at11 | exact at12 | exact at13 | exact at14 | exact at15 | exact at16 | exact atX rfl) (by first | exact at0 | exact at1 | exact at2 | exact at3 | exact at4 | exact at5 | exact at6 | exact at7 | exact at8 | exact at9 | exact at10 | exact at11 | exact at12 | exact at13 | exact at14 | exact at15 | exact at16 | exact atX rfl) ?_
    | refine leaf_tellNon (a := [4]) mu_e (by first | exact at0 | exact at1 | exact at2 | exact at3 | exact at4 | exact at5 | exact at6 | exact at7 | exact at8 | exact at9 | exact at10 | exact at11 | exact at12 | exact at13 | exact at14 | exact at15 | exact at16 | exact atX rfl) (by first | exact at0 | exact at1 | exact at2 | exact at3 | exact at4 | exact at5 | exact at6 | exact at7 | exact at8 | exact at9 | exact at10 | exact at11 | exact at12 | exact at13 | exact at14 | exact at15 | exact at16 | exact atX rfl) (by first | exact at0 | exact at1 | exact at2 | exact at3 | exact at4 | exact at5 | exact at6 | exact at7 | exact at8 | exact at9 | exact at10 | exact at11 | exact at12 | exact at13 | exact at14 | exact at15 | exact at16 | exact atX rfl) ?_
    | refine cap_Word_spec (c := ⟨5, 4, 1, 0⟩) mu_w ?_
    | refine leaf_tellNon (a := [0]) mu_f (by first | exact at0 | exact at1 | exact at2 | exact at3 | exact at4 | exact at5 | exact at6 | exact at7 | exact at8 | exact at9 | exact at10 | exact at11 | exact at12 | exact at13 | exact at14 | exact at15 | exact at16 | exact atX rfl) (by first | exact at0 | exact at1 | exact at2 | exact at3 | exact at4 | exact at5 | exact at6 | exact at7 | exact at8 | exact at9 | exact at10 | exact at11 | exact at12 | exact at13 | exact at14 | exact at15 | exact at16 | exact atX rfl) (by first | exact at0 | exact at1 | exact at2 | exact at3 | exact at4 | exact at5 | exact at6 | exact at7 | exact at8 | exact at9 | exact at10 | exact at11 | exact at12 | exact at13 | exact at14 | exact at15 | exact at16 | exact atX rfl) ?_
    | refine leaf_nilNon (a := [3]) (.inr rfl) mu_g (by first | exact at0 | exact at1 | exact at2 | exact at3 | exact at4 | exact at5 | exact at6 | exact at7 | exact at8 | exact at9 | exact at10 | exact at11 | exact at12 | exact at13 | exact at14 | exact at15 | exact at16 | exact atX rfl) (by first | exact at0 | exact at1 | exact at2 | exact at3 | exact at4 | exact at5 | exact at6 | exact at7 | exact at8 | exact at9 | exact at10 | exact at11 | exact at12 | exact at13 | exact at14 | exact at15 | exact at16 | exact atX rfl) (by first | exact at0 | exact at1 | exact at2 | exact at3 | exact at4 | exact at5 | exact at6 | exact at7 | exact at8 | exact at9 | exact at10 | exact at11 | exact at12 | exact at13 | exact at14 | exact at15 | exact at16 | exact atX rfl) ?_
    | refine state_Same_spec (by first | exact at0 | exact at1 | exact at2 | exact at3 | exact at4 | exact at5 | exact at6 | exact at7 | exact at8 | exact at9 | exact at10 | exact at11 | exact at12 | exact at13 | exact at14 | exact at15 | exact at16 | exact atX rfl) (by first | exact at0 | exact at1 | exact at2 | exact at3 | exact at4 | exact at5 | exact at6 | exact at7 | exact at8 | exact at9 | exact at10 | exact at11 | exact at12 | exact at13 | exact at14 | exact at15 | exact at16 | exact atX rfl) (by first | exact at0 | exact at1 | exact at2 | exact at3 | exact at4 | exact at5 | exact at6 | exact at7 | exact at8 | exact at9 | exact at10 | exact at11 | exact at12 | exact at13 | exact at14 | exact at15 | exact at16 | exact atX rfl) (by first | exact at0 | exact at1 | exact at2 | exact at3 | exact at4 | exact at5 | exact at6 | exact at7 | exact at8 | exact at9 | exact at10 | exact at11 | exact at12 | exact at13 | exact at14 | exact at15 | exact at16 | exact atX rfl) mu_n.1 mu_n.2 ?_) <;> try simp only [*, wpx_of k9_0.eq_1, wpx_of k9_1.eq_1, wpx_of k9_2.eq_1, wpx_of k9_3.eq_1, wpx_of k9_4.eq_1, wpx_of k9_5.eq_1, wpx_of k9_6.eq_1, wpx_of k9_7.eq_1, wpx_of k9_8.eq_1, wpx_of k9_9.eq_1, wpx_of k9_10.eq_1, wpx_of k9_11.eq_1, stV, slotsO, thingsO, Nat.add_assoc, mu_l, mu_t, mu_s, Int.cast_ofNat_Int, go_sem])
  all_goals first | rfl | trace_state

end
end Go.Proofs.YtipigjckoejfpaaGreat.Ax
