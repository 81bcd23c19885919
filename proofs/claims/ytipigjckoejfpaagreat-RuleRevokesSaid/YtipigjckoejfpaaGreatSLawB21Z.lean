/- The laws of chapter 21: the parts of their text that are alike in all. Conditions: none. Printed by lawbase.py. -/
import Derived.Test.YtipigjckoejfpaaGreatSClosedZ
import Derived.Test.YtipigjckoejfpaaGreatZT
import Derived.Test.YtipigjckoejfpaaGreatZGv
import Derived.Test.YtipigjckoejfpaaGreatZMo
set_option linter.unusedSimpArgs false
set_option linter.unusedVariables false
namespace Go.Proofs.YtipigjckoejfpaaGreat.Ax
open Go Go.Ax Go.Ax.M
set_option maxRecDepth 100000
section
variable {H : Heap} {K : AVal → Heap → Prop}
theorem first21_spec (h : K (stV S0 H.length (H.length + 1) true true) (H ++ [slotsO S0, thingsO S0])) : ACalls Tryz.prog 80 [] H K :=
  closed_state (tab := tab21) tab21Ok rfl (loops := 200) (k := 60) (i := 11) (j := 12) (by decide) (by kernel_rfl) h
theorem way21_spec {o n st len : Nat} {f : Bool} {x : AObj} (ho : H[o]? = some x) (h : K (.agg [.slice o n st len f]) H) : ACalls Tryz.prog 81 [.slice o n st len f] H K := by
  refine ACalls.gc ?_
  refine ACalls.into ok81 (Nat.le_of_ble_eq_true rfl) ?_; (try simp only [c81, wpx_of k81_0.eq_1, go_sem]); repeat' ((first
    | refine And.intro (Or.inr rfl) ?_
    | ((first | refine cB ?_ ?_ | refine gT ?_ ?_ | refine gF ?_ ?_ | refine dT ?_ ?_ | refine dF ?_ ?_) <;> intro hc)) <;> try simp only [*, wpx_of k81_0.eq_1, go_sem])
  exact Gc.old (by simp [AVal.refs, refsL]; exact get_lt ho) h
theorem heavy21_spec {s : State} {oS oT : Nat} {fS fT : Bool} {c : M.Call} {oA oB : Nat} {fA fB : Bool} (h : K (.bool (heavyM s c)) H) :
    ACalls Tryz.prog 77 [.agg [.int .i64 s.geo.threads, .int .i64 s.geo.slots, .int .i64 s.geo.things, .slice oS s.slots.length 0 s.slots.length fS, .slice oT s.things.length 0 s.things.length fT], .agg [.int .i64 c.op, .slice oA c.a.length 0 c.a.length fA, .slice oB c.b.length 0 c.b.length fB, .int .i64 c.x, .int .i64 c.y, .int .u64 c.w]] H K := by
  refine ACalls.tidy ?_
  refine ACalls.into ok77 (Nat.le_of_ble_eq_true rfl) ?_; (try simp only [c77, wpx_of k77_0.eq_1, go_sem]); repeat' ((first
    | refine And.intro (Or.inr rfl) ?_
    | ((first | refine cB ?_ ?_ | refine gT ?_ ?_ | refine gF ?_ ?_ | refine dT ?_ ?_ | refine dF ?_ ?_) <;> intro hc)) <;> try simp only [*, wpx_of k77_0.eq_1, go_sem])
  all_goals (refine tb h (by first | exact ⟨_, rfl⟩ | exact ⟨[], (List.append_nil _).symm⟩ | exact hx | exact hx.app _) ?_; first | (simp only [heavyM, *, cond_true, cond_false, Bool.and_true, Bool.true_and, Bool.and_false, Bool.false_and, Bool.or_true, Bool.true_or, Bool.or_false, Bool.false_or, Bool.not_true, Bool.not_false, decide_true, decide_false, go_sem]; done) | (simp_all [heavyM]; done) | (simp_all [heavyM]; omega) | grind [heavyM])
theorem heavy21_nil {s : State} {oS oT : Nat} {fS fT : Bool} {op x y w : Int} {a : List Int} {oA : Nat} {fA : Bool} (h : K (.bool (heavyM s ⟨op, a, [], x, y, w⟩)) H) :
    ACalls Tryz.prog 77 [.agg [.int .i64 s.geo.threads, .int .i64 s.geo.slots, .int .i64 s.geo.things, .slice oS s.slots.length 0 s.slots.length fS, .slice oT s.things.length 0 s.things.length fT], .agg [.int .i64 op, .slice oA a.length 0 a.length fA, .lit (.slice none 0 0), .int .i64 x, .int .i64 y, .int .u64 w]] H K := by
  refine ACalls.tidy (ACalls.lay 1 ?_)
  simp only [Go.Ax.fillN, Go.Ax.fill1, go_sem]
  exact heavy21_spec (c := ⟨op, a, [], x, y, w⟩) (oB := H.length) ⟨rfl, ⟨_, rfl⟩, h⟩
end
end Go.Proofs.YtipigjckoejfpaaGreat.Ax
