/- The laws of mail: the parts of their text. Conditions: none. -/
import Derived.Test.YtipigjckoejfpaaGreatSLawB18Z
import Derived.Test.YtipigjckoejfpaaGreatSMailZ
set_option linter.unusedSimpArgs false
set_option linter.unusedVariables false
namespace Go.Proofs.YtipigjckoejfpaaGreat.Ax
open Go Go.Ax Go.Ax.M
set_option linter.unusedSimpArgs false
set_option linter.unusedVariables false
set_option maxRecDepth 100000
section
variable {H : Heap} {K : AVal → Heap → Prop}
theorem awake18_spec (h : K (.bool true) H) : ACalls Tryz.prog 24 [] H K := by
  refine ACalls.tidy ?_
  refine ACalls.into ok24 (Nat.le_of_ble_eq_true rfl) ?_; (try simp only [c24, wpx_of k24_0.eq_1, wpx_of k24_1.eq_1, wpx_of k24_2.eq_1, stV, slotsO, thingsO, Nat.add_assoc, go_sem]); repeat' ((first
    | refine And.intro (Or.inr rfl) ?_
    | ((first | refine cB ?_ ?_ | refine gT ?_ ?_ | refine gF ?_ ?_ | refine dT ?_ ?_ | refine dF ?_ ?_) <;> intro hc)
    | refine first18_spec ?_
    | refine way18_spec (by first | exact at0 | exact at1 | exact at2 | exact at3 | exact at4 | exact at5 | exact at6 | exact at7 | exact at8 | exact at9 | exact at10 | exact at11 | exact at12 | exact at13 | exact at14 | exact at15 | exact at16 | exact atX rfl) ?_) <;> try simp only [*, wpx_of k24_0.eq_1, wpx_of k24_1.eq_1, wpx_of k24_2.eq_1, stV, slotsO, thingsO, Nat.add_assoc, go_sem])
  refine ACalls.lay 1 ?_
  simp only [fillN, fill1, go_sem]
  refine mail_Do_some (s := S0) (c := ⟨7, [1], [], 0, 0, 42⟩) (s' := boxed S0 1 (mailT 0 0 42)) (e := 0) (w := 0) (n := 0) (oS := H.length) (oT := H.length + 1) (oA := H.length + 2) (oB := H.length + 3) (rS := false) (rT := false) (rA := false) (rB := false) (by kernel_rfl) at0 at1 at2 at3 ?_
  (try simp only [wpx_of k24_0.eq_1, wpx_of k24_1.eq_1, wpx_of k24_2.eq_1, stV, slotsO, thingsO, Nat.add_assoc, go_sem]); repeat' ((first
    | refine And.intro (Or.inr rfl) ?_
    | ((first | refine cB ?_ ?_ | refine gT ?_ ?_ | refine gF ?_ ?_ | refine dT ?_ ?_ | refine dF ?_ ?_) <;> intro hc)
    | refine way18_spec (by first | exact at0 | exact at1 | exact at2 | exact at3 | exact at4 | exact at5 | exact at6 | exact at7 | exact at8 | exact at9 | exact at10 | exact at11 | exact at12 | exact at13 | exact at14 | exact at15 | exact at16 | exact atX rfl) ?_) <;> try simp only [*, wpx_of k24_0.eq_1, wpx_of k24_1.eq_1, wpx_of k24_2.eq_1, stV, slotsO, thingsO, Nat.add_assoc, go_sem])
  refine ACalls.lay 1 ?_
  simp only [fillN, fill1, go_sem]
  refine mail_Do_some (s := boxed S0 1 (mailT 0 0 42)) (c := ⟨8, [1], [], 0, 0, 0⟩) (s' := S0) (e := 0) (w := 42) (n := 0) (oS := H.length + 4) (oT := H.length + 5) (oA := H.length + 8) (oB := H.length + 11) (rS := false) (rT := false) (rA := false) (rB := false) (by kernel_rfl) at4 at5 at8 at11 ?_
  (try simp only [wpx_of k24_0.eq_1, wpx_of k24_1.eq_1, wpx_of k24_2.eq_1, stV, slotsO, thingsO, Nat.add_assoc, go_sem]); repeat' ((first
    | refine And.intro (Or.inr rfl) ?_
    | ((first | refine cB ?_ ?_ | refine gT ?_ ?_ | refine gF ?_ ?_ | refine dT ?_ ?_ | refine dF ?_ ?_) <;> intro hc)
    | refine first18_spec ?_) <;> try simp only [*, wpx_of k24_0.eq_1, wpx_of k24_1.eq_1, wpx_of k24_2.eq_1, stV, slotsO, thingsO, Nat.add_assoc, go_sem])
  refine state_Same_spec (s := S0) (u := S0) (oS := H.length + 12) (oT := H.length + 13) (oS2 := H.length + 14) (oT2 := H.length + 15) (rS := false) (rT := false) (rS2 := false) (rT2 := false) at12 at13 at14 at15 (by decide) (by decide) ?_
  rw [show sSame S0 S0 = true from sSame_iff.2 rfl]
  (try simp only [wpx_of k24_0.eq_1, wpx_of k24_1.eq_1, wpx_of k24_2.eq_1, stV, slotsO, thingsO, Nat.add_assoc, go_sem]); repeat' ((first
    | refine And.intro (Or.inr rfl) ?_
    | ((first | refine cB ?_ ?_ | refine gT ?_ ?_ | refine gF ?_ ?_ | refine dT ?_ ?_ | refine dF ?_ ?_) <;> intro hc)) <;> try simp only [*, wpx_of k24_0.eq_1, wpx_of k24_1.eq_1, wpx_of k24_2.eq_1, stV, slotsO, thingsO, Nat.add_assoc, go_sem])
  all_goals first | exact ⟨rfl, _, rfl⟩ | exact tb h ⟨_, rfl⟩ rfl

end
end Go.Proofs.YtipigjckoejfpaaGreat.Ax
