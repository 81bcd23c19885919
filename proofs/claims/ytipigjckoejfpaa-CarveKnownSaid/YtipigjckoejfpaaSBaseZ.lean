/- The base layers: what the program's functions answer: rights, places, capabilities. Conditions: none. -/
import Derived.Test.YtipigjckoejfpaaMBaseZ
import Derived.Test.YtipigjckoejfpaaZC1
set_option linter.unusedSimpArgs false
set_option linter.unusedVariables false
namespace Go.Proofs.Ytipigjckoejfpaa.Ax
open Go Go.Ax Go.Ax.M
set_option linter.unusedSimpArgs false
set_option linter.unusedVariables false

section
variable {H : Heap} {K : AVal → Heap → Prop}

theorem kb {x y : Bool} (h : K (.bool y) H) (e : x = y) : K (.bool x) H := e ▸ h
theorem ki {k : IntKind} {x y : Int} (h : K (.int k y) H) (e : x = y) : K (.int k x) H := e ▸ h

theorem tb {x y : Bool} {H' : Heap} (h : K (.bool y) H) (hx : ∃ L, H' = H ++ L) (e : x = y) : (AVal.bool x).plain = true ∧ (∃ L, H' = H ++ L) ∧ K (.bool x) H := ⟨rfl, hx, e ▸ h⟩
theorem ti {k : IntKind} {x y : Int} {H' : Heap} (h : K (.int k y) H) (hx : ∃ L, H' = H ++ L) (e : x = y) : (AVal.int k x).plain = true ∧ (∃ L, H' = H ++ L) ∧ K (.int k x) H := ⟨rfl, hx, e ▸ h⟩
theorem tv {x y : AVal} {H' : Heap} (h : K y H) (hx : ∃ L, H' = H ++ L) (e : x = y ∧ x.plain = true) : x.plain = true ∧ (∃ L, H' = H ++ L) ∧ K x H := ⟨e.2, hx, e.1 ▸ h⟩

theorem right_Good_spec {r : Int} (h : K (.bool (rGood r)) H) : ACalls Try.prog 86 [.int .i64 r] H K := by
  refine ACalls.into ok86 (Nat.le_of_ble_eq_true rfl) ?_; (try simp only [c86, wpx_of k86_0.eq_1, go_sem]); repeat' ((first
    | refine And.intro (Or.inr rfl) ?_
    | ((first | refine cB ?_ ?_ | refine gT ?_ ?_ | refine gF ?_ ?_ | refine dT ?_ ?_ | refine dF ?_ ?_) <;> intro hc)) <;> try simp only [*, wpx_of k86_0.eq_1, go_sem])
  all_goals (refine kb h ?_; first | (simp only [rGood, inB, *, cond_true, cond_false, Bool.and_true, Bool.true_and, Bool.and_false, Bool.false_and, Bool.or_true, Bool.true_or, Bool.or_false, Bool.false_or, Bool.not_true, Bool.not_false, decide_true, decide_false, go_sem]; done) | (simp_all [rGood, inB]; done) | (simp_all [rGood, inB]; omega) | grind [rGood, inB])

theorem right_of_spec {r : Int} (h : K (.int .i64 (rOf r)) H) : ACalls Try.prog 105 [.int .i64 r] H K := by
  refine ACalls.into ok105 (Nat.le_of_ble_eq_true rfl) ?_; (try simp only [c105, wpx_of k105_0.eq_1, wpx_of k105_1.eq_1, go_sem]); repeat' ((first
    | refine And.intro (Or.inr rfl) ?_
    | ((first | refine cB ?_ ?_ | refine gT ?_ ?_ | refine gF ?_ ?_ | refine dT ?_ ?_ | refine dF ?_ ?_) <;> intro hc)
    | refine right_Good_spec ?_) <;> try simp only [*, wpx_of k105_0.eq_1, wpx_of k105_1.eq_1, go_sem])
  all_goals (refine ki h ?_; first | (simp only [rOf, *, cond_true, cond_false, Bool.and_true, Bool.true_and, Bool.and_false, Bool.false_and, Bool.or_true, Bool.true_or, Bool.or_false, Bool.false_or, Bool.not_true, Bool.not_false, decide_true, decide_false, go_sem]; done) | (simp_all [rOf]; done) | (simp_all [rOf]; omega) | grind [rOf])

theorem right_Less_spec {a b : Int} (h : K (.int .i64 (rLess a b)) H) : ACalls Try.prog 79 [.int .i64 a, .int .i64 b] H K := by
  refine ACalls.into ok79 (Nat.le_of_ble_eq_true rfl) ?_; (try simp only [c79, wpx_of k79_0.eq_1, go_sem]); repeat' ((first
    | refine And.intro (Or.inr rfl) ?_
    | ((first | refine cB ?_ ?_ | refine gT ?_ ?_ | refine gF ?_ ?_ | refine dT ?_ ?_ | refine dF ?_ ?_) <;> intro hc)
    | refine right_of_spec ?_) <;> try simp only [*, wpx_of k79_0.eq_1, go_sem])
  simpa [rLess, IntKind.bits] using h

theorem right_Both_spec {a b : Int} (h : K (.int .i64 (rBoth a b)) H) : ACalls Try.prog 108 [.int .i64 a, .int .i64 b] H K := by
  refine ACalls.into ok108 (Nat.le_of_ble_eq_true rfl) ?_; (try simp only [c108, wpx_of k108_0.eq_1, go_sem]); repeat' ((first
    | refine And.intro (Or.inr rfl) ?_
    | ((first | refine cB ?_ ?_ | refine gT ?_ ?_ | refine gF ?_ ?_ | refine dT ?_ ?_ | refine dF ?_ ?_) <;> intro hc)
    | refine right_of_spec ?_) <;> try simp only [*, wpx_of k108_0.eq_1, go_sem])
  simpa [rBoth, IntKind.bits] using h

theorem right_Within_spec {a b : Int} (h : K (.bool (rWithin a b)) H) : ACalls Try.prog 48 [.int .i64 a, .int .i64 b] H K := by
  refine ACalls.into ok48 (Nat.le_of_ble_eq_true rfl) ?_; (try simp only [c48, wpx_of k48_0.eq_1, go_sem]); repeat' ((first
    | refine And.intro (Or.inr rfl) ?_
    | ((first | refine cB ?_ ?_ | refine gT ?_ ?_ | refine gF ?_ ?_ | refine dT ?_ ?_ | refine dF ?_ ?_) <;> intro hc)
    | refine right_Less_spec ?_) <;> try simp only [*, wpx_of k48_0.eq_1, go_sem])
  simpa [rWithin] using h

theorem right_Badge_spec {b : Int} (h : K (.bool (rBadge b)) H) : ACalls Try.prog 87 [.int .i64 b] H K := by
  refine ACalls.into ok87 (Nat.le_of_ble_eq_true rfl) ?_; (try simp only [c87, wpx_of k87_0.eq_1, go_sem]); repeat' ((first
    | refine And.intro (Or.inr rfl) ?_
    | ((first | refine cB ?_ ?_ | refine gT ?_ ?_ | refine gF ?_ ?_ | refine dT ?_ ?_ | refine dF ?_ ?_) <;> intro hc)) <;> try simp only [*, wpx_of k87_0.eq_1, go_sem])
  all_goals (refine kb h ?_; first | (simp only [rBadge, inB, *, cond_true, cond_false, Bool.and_true, Bool.true_and, Bool.and_false, Bool.false_and, Bool.or_true, Bool.true_or, Bool.or_false, Bool.false_or, Bool.not_true, Bool.not_false, decide_true, decide_false, go_sem]; done) | (simp_all [rBadge, inB]; done) | (simp_all [rBadge, inB]; omega) | grind [rBadge, inB])

theorem geo_in_spec {n lo hi : Int} (h : K (.bool (inB n lo hi)) H) : ACalls Try.prog 67 [.int .i64 n, .int .i64 lo, .int .i64 hi] H K := by
  refine ACalls.into ok67 (Nat.le_of_ble_eq_true rfl) ?_; (try simp only [c67, wpx_of k67_0.eq_1, go_sem]); repeat' ((first
    | refine And.intro (Or.inr rfl) ?_
    | ((first | refine cB ?_ ?_ | refine gT ?_ ?_ | refine gF ?_ ?_ | refine dT ?_ ?_ | refine dF ?_ ?_) <;> intro hc)) <;> try simp only [*, wpx_of k67_0.eq_1, go_sem])
  all_goals (refine kb h ?_; first | (simp only [inB, *, cond_true, cond_false, Bool.and_true, Bool.true_and, Bool.and_false, Bool.false_and, Bool.or_true, Bool.true_or, Bool.or_false, Bool.false_or, Bool.not_true, Bool.not_false, decide_true, decide_false, go_sem]; done) | (simp_all [inB]; done) | (simp_all [inB]; omega) | grind [inB])

theorem w64 {n : Int} (h1 : -9223372036854775808 ≤ n) (h2 : n ≤ 9223372036854775807) : IntKind.wrap .i64 n = n := by
  simp [IntKind.wrap, IntKind.bits, IntKind.signed]; omega

theorem geo_Good_spec {g : Geo} (h : K (.bool (gGood g)) H) : ACalls Try.prog 40 [.agg g.cells] H K := by
  unfold Geo.cells
  have e : inB g.threads 1 4 = true → IntKind.wrap .i64 (8 * g.threads) = 8 * g.threads ∧ IntKind.wrap .i64 (g.threads + 2) = g.threads + 2 := by
    intro h; simp [inB] at h; exact ⟨w64 (by omega) (by omega), w64 (by omega) (by omega)⟩
  refine ACalls.tidy ?_
  refine ACalls.into ok40 (Nat.le_of_ble_eq_true rfl) ?_; (try simp only [c40, wpx_of k40_0.eq_1, go_sem]); repeat' ((first
    | refine And.intro (Or.inr rfl) ?_
    | ((first | refine cB ?_ ?_ | refine gT ?_ ?_ | refine gF ?_ ?_ | refine dT ?_ ?_ | refine dF ?_ ?_) <;> intro hc)
    | refine geo_in_spec ?_) <;> try simp only [*, wpx_of k40_0.eq_1, go_sem])
  all_goals (refine tb h (by first | exact ⟨_, rfl⟩ | exact ⟨[], (List.append_nil _).symm⟩ | exact hx | exact hx.app _) ?_; first | (simp only [gGood, *, cond_true, cond_false, Bool.and_true, Bool.true_and, Bool.and_false, Bool.false_and, Bool.or_true, Bool.true_or, Bool.or_false, Bool.false_or, Bool.not_true, Bool.not_false, decide_true, decide_false, go_sem]; done) | (simp_all [gGood]; done) | (simp_all [gGood]; omega) | grind [gGood])

theorem gGood_b {g : Geo} (h : gGood g = true) : 1 ≤ g.threads ∧ g.threads ≤ 4 ∧ 8 * g.threads ≤ g.slots ∧ g.slots ≤ 96 ∧ g.slots.tmod 8 = 0 ∧ g.threads + 2 ≤ g.things ∧ g.things ≤ 48 := by
  simp [gGood, inB] at h; omega

theorem geo_Root_spec {g : Geo} {t : Int} (h : K (.int .i64 (gRoot g t)) H) : ACalls Try.prog 70 [.agg g.cells, .int .i64 t] H K := by
  have e1 : gGood g = true → IntKind.wrap .i64 (g.threads - 1) = g.threads - 1 := fun h => w64 (by have := gGood_b h; omega) (by have := gGood_b h; omega)
  have e2 : gGood g = true → inB t 0 (g.threads - 1) = true → IntKind.wrap .i64 (8 * t) = 8 * t := fun h h2 => by
    have := gGood_b h
    simp [inB] at h2
    exact w64 (by omega) (by omega)
  refine ACalls.tidy ?_
  unfold Geo.cells
  refine ACalls.into ok70 (Nat.le_of_ble_eq_true rfl) ?_; (try simp only [c70, wpx_of k70_0.eq_1, wpx_of k70_1.eq_1, wpx_of k70_2.eq_1, e1, go_sem]); repeat' ((first
    | refine And.intro (Or.inr rfl) ?_
    | ((first | refine cB ?_ ?_ | refine gT ?_ ?_ | refine gF ?_ ?_ | refine dT ?_ ?_ | refine dF ?_ ?_) <;> intro hc)
    | refine geo_Good_spec (g := g) ?_
    | refine geo_in_spec ?_) <;> try simp only [*, wpx_of k70_0.eq_1, wpx_of k70_1.eq_1, wpx_of k70_2.eq_1, e1, go_sem])
  all_goals (refine ti h (by first | exact ⟨_, rfl⟩ | exact ⟨[], (List.append_nil _).symm⟩ | exact hx | exact hx.app _) ?_; first | (simp only [gRoot, *, cond_true, cond_false, Bool.and_true, Bool.true_and, Bool.and_false, Bool.false_and, Bool.or_true, Bool.true_or, Bool.or_false, Bool.false_or, Bool.not_true, Bool.not_false, decide_true, decide_false, go_sem]; done) | (simp_all [gRoot]; done) | (simp_all [gRoot]; omega) | grind [gRoot])

theorem cap_in_spec {n lo hi : Int} (h : K (.bool (inB n lo hi)) H) : ACalls Try.prog 85 [.int .i64 n, .int .i64 lo, .int .i64 hi] H K := by
  refine ACalls.into ok85 (Nat.le_of_ble_eq_true rfl) ?_; (try simp only [c85, wpx_of k85_0.eq_1, go_sem]); repeat' ((first
    | refine And.intro (Or.inr rfl) ?_
    | ((first | refine cB ?_ ?_ | refine gT ?_ ?_ | refine gF ?_ ?_ | refine dT ?_ ?_ | refine dF ?_ ?_) <;> intro hc)) <;> try simp only [*, wpx_of k85_0.eq_1, go_sem])
  all_goals (refine kb h ?_; first | (simp only [inB, *, cond_true, cond_false, Bool.and_true, Bool.true_and, Bool.and_false, Bool.false_and, Bool.or_true, Bool.true_or, Bool.or_false, Bool.false_or, Bool.not_true, Bool.not_false, decide_true, decide_false, go_sem]; done) | (simp_all [inB]; done) | (simp_all [inB]; omega) | grind [inB])

theorem cap_badged_spec {n : Int} (h : K (.bool (cBadged n)) H) : ACalls Try.prog 88 [.int .i64 n] H K := by
  refine ACalls.into ok88 (Nat.le_of_ble_eq_true rfl) ?_; (try simp only [c88, wpx_of k88_0.eq_1, go_sem]); repeat' ((first
    | refine And.intro (Or.inr rfl) ?_
    | ((first | refine cB ?_ ?_ | refine gT ?_ ?_ | refine gF ?_ ?_ | refine dT ?_ ?_ | refine dF ?_ ?_) <;> intro hc)) <;> try simp only [*, wpx_of k88_0.eq_1, go_sem])
  all_goals (refine kb h ?_; first | (simp only [cBadged, *, cond_true, cond_false, Bool.and_true, Bool.true_and, Bool.and_false, Bool.false_and, Bool.or_true, Bool.true_or, Bool.or_false, Bool.false_or, Bool.not_true, Bool.not_false, decide_true, decide_false, go_sem]; done) | (simp_all [cBadged]; done) | (simp_all [cBadged]; omega) | grind [cBadged])

theorem cap_None_spec {c : Cap} (h : K (.bool (cNone c)) H) : ACalls Try.prog 37 [.agg c.cells] H K := by
  refine ACalls.tidy ?_
  unfold Cap.cells
  refine ACalls.into ok37 (Nat.le_of_ble_eq_true rfl) ?_; (try simp only [c37, wpx_of k37_0.eq_1, go_sem]); repeat' ((first
    | refine And.intro (Or.inr rfl) ?_
    | ((first | refine cB ?_ ?_ | refine gT ?_ ?_ | refine gF ?_ ?_ | refine dT ?_ ?_ | refine dF ?_ ?_) <;> intro hc)) <;> try simp only [*, wpx_of k37_0.eq_1, go_sem])
  all_goals (refine tb h (by first | exact ⟨_, rfl⟩ | exact ⟨[], (List.append_nil _).symm⟩ | exact hx | exact hx.app _) ?_; first | (simp only [cNone, *, cond_true, cond_false, Bool.and_true, Bool.true_and, Bool.and_false, Bool.false_and, Bool.or_true, Bool.true_or, Bool.or_false, Bool.false_or, Bool.not_true, Bool.not_false, decide_true, decide_false, go_sem]; done) | (simp_all [cNone]; done) | (simp_all [cNone]; omega) | grind [cNone])

theorem cap_Good_spec {c : Cap} (h : K (.bool (cGood c)) H) : ACalls Try.prog 63 [.agg c.cells] H K := by
  refine ACalls.tidy ?_
  unfold Cap.cells
  refine ACalls.into ok63 (Nat.le_of_ble_eq_true rfl) ?_; (try simp only [c63, wpx_of k63_0.eq_1, wpx_of k63_1.eq_1, wpx_of k63_2.eq_1, go_sem]); repeat' ((first
    | refine And.intro (Or.inr rfl) ?_
    | ((first | refine cB ?_ ?_ | refine gT ?_ ?_ | refine gF ?_ ?_ | refine dT ?_ ?_ | refine dF ?_ ?_) <;> intro hc)
    | refine cap_None_spec (c := c) ?_
    | refine cap_in_spec ?_
    | refine right_Good_spec ?_
    | refine right_Badge_spec ?_
    | refine cap_badged_spec ?_) <;> try simp only [*, wpx_of k63_0.eq_1, wpx_of k63_1.eq_1, wpx_of k63_2.eq_1, go_sem])
  all_goals (refine tb h (by first | exact ⟨_, rfl⟩ | exact ⟨[], (List.append_nil _).symm⟩ | exact hx | exact hx.app _) ?_; first | (simp only [cGood, *, cond_true, cond_false, Bool.and_true, Bool.true_and, Bool.and_false, Bool.false_and, Bool.or_true, Bool.true_or, Bool.or_false, Bool.false_or, Bool.not_true, Bool.not_false, decide_true, decide_false, go_sem]; done) | (simp_all [cGood]; done) | (simp_all [cGood]; omega) | grind [cGood])

theorem cap_Cut_spec {c : Cap} {r : Int} (h : K (.agg (cCut c r).cells) H) : ACalls Try.prog 91 [.agg c.cells, .int .i64 r] H K := by
  refine ACalls.tidy ?_
  unfold Cap.cells
  refine ACalls.into ok91 (Nat.le_of_ble_eq_true rfl) ?_; (try simp only [c91, wpx_of k91_0.eq_1, wpx_of k91_1.eq_1, wpx_of k91_2.eq_1, go_sem]); repeat' ((first
    | refine And.intro (Or.inr rfl) ?_
    | ((first | refine cB ?_ ?_ | refine gT ?_ ?_ | refine gF ?_ ?_ | refine dT ?_ ?_ | refine dF ?_ ?_) <;> intro hc)
    | refine cap_Good_spec (c := c) ?_
    | refine right_Both_spec ?_) <;> try simp only [*, wpx_of k91_0.eq_1, wpx_of k91_1.eq_1, wpx_of k91_2.eq_1, go_sem])
  all_goals (refine tv h (by first | exact ⟨_, rfl⟩ | exact ⟨[], (List.append_nil _).symm⟩ | exact hx | exact hx.app _) ?_; first | (simp only [cCut, Cap.cells, Cap.zero, AVal.plain, plains, *, cond_true, cond_false, Bool.and_true, Bool.true_and, Bool.and_false, Bool.false_and, Bool.or_true, Bool.true_or, Bool.or_false, Bool.false_or, Bool.not_true, Bool.not_false, decide_true, decide_false, go_sem]; done) | (simp_all [cCut, Cap.cells, Cap.zero, AVal.plain, plains]; done) | (simp_all [cCut, Cap.cells, Cap.zero, AVal.plain, plains]; omega) | grind [cCut, Cap.cells, Cap.zero, AVal.plain, plains])

theorem cap_Stamp_spec {c : Cap} {b : Int} (h : K (.tup [.agg (cStamp c b).1.cells, .int .i64 (cStamp c b).2]) H) : ACalls Try.prog 92 [.agg c.cells, .int .i64 b] H K := by
  refine ACalls.tidy ?_
  unfold Cap.cells
  refine ACalls.into ok92 (Nat.le_of_ble_eq_true rfl) ?_; (try simp only [c92, wpx_of k92_0.eq_1, wpx_of k92_1.eq_1, wpx_of k92_2.eq_1, wpx_of k92_3.eq_1, wpx_of k92_4.eq_1, wpx_of k92_5.eq_1, wpx_of k92_6.eq_1, wpx_of k92_7.eq_1, wpx_of k92_8.eq_1, wpx_of k92_9.eq_1, go_sem]); repeat' ((first
    | refine And.intro (Or.inr rfl) ?_
    | ((first | refine cB ?_ ?_ | refine gT ?_ ?_ | refine gF ?_ ?_ | refine dT ?_ ?_ | refine dF ?_ ?_) <;> intro hc)
    | refine cap_Good_spec (c := c) ?_
    | refine right_Badge_spec ?_
    | refine cap_badged_spec ?_) <;> try simp only [*, wpx_of k92_0.eq_1, wpx_of k92_1.eq_1, wpx_of k92_2.eq_1, wpx_of k92_3.eq_1, wpx_of k92_4.eq_1, wpx_of k92_5.eq_1, wpx_of k92_6.eq_1, wpx_of k92_7.eq_1, wpx_of k92_8.eq_1, wpx_of k92_9.eq_1, go_sem])
  all_goals (refine tv h (by first | exact ⟨_, rfl⟩ | exact ⟨[], (List.append_nil _).symm⟩ | exact hx | exact hx.app _) ?_; first | (simp only [cStamp, Cap.cells, Cap.zero, AVal.plain, plains, *, cond_true, cond_false, Bool.and_true, Bool.true_and, Bool.and_false, Bool.false_and, Bool.or_true, Bool.true_or, Bool.or_false, Bool.false_or, Bool.not_true, Bool.not_false, decide_true, decide_false, go_sem]; done) | (simp_all [cStamp, Cap.cells, Cap.zero, AVal.plain, plains]; done) | (simp_all [cStamp, Cap.cells, Cap.zero, AVal.plain, plains]; omega) | grind [cStamp, Cap.cells, Cap.zero, AVal.plain, plains])

theorem cap_Less_spec {a b : Cap} (h : K (.bool (cLess a b)) H) : ACalls Try.prog 38 [.agg a.cells, .agg b.cells] H K := by
  refine ACalls.tidy ?_
  unfold Cap.cells
  refine ACalls.into ok38 (Nat.le_of_ble_eq_true rfl) ?_; (try simp only [c38, wpx_of k38_0.eq_1, wpx_of k38_1.eq_1, wpx_of k38_2.eq_1, go_sem]); repeat' ((first
    | refine And.intro (Or.inr rfl) ?_
    | ((first | refine cB ?_ ?_ | refine gT ?_ ?_ | refine gF ?_ ?_ | refine dT ?_ ?_ | refine dF ?_ ?_) <;> intro hc)
    | refine cap_None_spec (c := a) ?_
    | refine right_Within_spec ?_) <;> try simp only [*, wpx_of k38_0.eq_1, wpx_of k38_1.eq_1, wpx_of k38_2.eq_1, go_sem])
  all_goals (refine tb h (by first | exact ⟨_, rfl⟩ | exact ⟨[], (List.append_nil _).symm⟩ | exact hx | exact hx.app _) ?_; first | (simp only [cLess, *, cond_true, cond_false, Bool.and_true, Bool.true_and, Bool.and_false, Bool.false_and, Bool.or_true, Bool.true_or, Bool.or_false, Bool.false_or, Bool.not_true, Bool.not_false, decide_true, decide_false, go_sem]; done) | (simp_all [cLess]; done) | (simp_all [cLess]; omega) | grind [cLess])

/-! ### The same of fields -/
section
variable {x0 x1 x2 x3 y0 y1 y2 y3 n : Int}
theorem geo_Good_x (h : K (.bool (gGood ⟨x0, x1, x2⟩)) H) : ACalls Try.prog 40 [.agg [.int .i64 x0, .int .i64 x1, .int .i64 x2]] H K := geo_Good_spec (g := ⟨x0, x1, x2⟩) h
theorem geo_Root_x (h : K (.int .i64 (gRoot ⟨x0, x1, x2⟩ n)) H) : ACalls Try.prog 70 [.agg [.int .i64 x0, .int .i64 x1, .int .i64 x2], .int .i64 n] H K := geo_Root_spec (g := ⟨x0, x1, x2⟩) h
theorem cap_None_x (h : K (.bool (cNone ⟨x0, x1, x2, x3⟩)) H) : ACalls Try.prog 37 [.agg [.int .i64 x0, .int .i64 x1, .int .i64 x2, .int .i64 x3]] H K := cap_None_spec (c := ⟨x0, x1, x2, x3⟩) h
theorem cap_Good_x (h : K (.bool (cGood ⟨x0, x1, x2, x3⟩)) H) : ACalls Try.prog 63 [.agg [.int .i64 x0, .int .i64 x1, .int .i64 x2, .int .i64 x3]] H K := cap_Good_spec (c := ⟨x0, x1, x2, x3⟩) h
theorem cap_Cut_x (h : K (.agg (cCut ⟨x0, x1, x2, x3⟩ n).cells) H) : ACalls Try.prog 91 [.agg [.int .i64 x0, .int .i64 x1, .int .i64 x2, .int .i64 x3], .int .i64 n] H K := cap_Cut_spec (c := ⟨x0, x1, x2, x3⟩) h
theorem cap_Stamp_x (h : K (.tup [.agg (cStamp ⟨x0, x1, x2, x3⟩ n).1.cells, .int .i64 (cStamp ⟨x0, x1, x2, x3⟩ n).2]) H) : ACalls Try.prog 92 [.agg [.int .i64 x0, .int .i64 x1, .int .i64 x2, .int .i64 x3], .int .i64 n] H K := cap_Stamp_spec (c := ⟨x0, x1, x2, x3⟩) h
theorem cap_Less_x (h : K (.bool (cLess ⟨x0, x1, x2, x3⟩ ⟨y0, y1, y2, y3⟩)) H) : ACalls Try.prog 38 [.agg [.int .i64 x0, .int .i64 x1, .int .i64 x2, .int .i64 x3], .agg [.int .i64 y0, .int .i64 y1, .int .i64 y2, .int .i64 y3]] H K := cap_Less_spec (a := ⟨x0, x1, x2, x3⟩) (b := ⟨y0, y1, y2, y3⟩) h
end

end
end Go.Proofs.Ytipigjckoejfpaa.Ax
