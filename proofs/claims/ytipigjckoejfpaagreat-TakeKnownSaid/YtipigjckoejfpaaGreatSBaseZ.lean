/- The base layers: what the program's functions answer: rights, places, capabilities. Conditions: none. -/
import Derived.Test.YtipigjckoejfpaaGreatMBaseZ
import Derived.Test.YtipigjckoejfpaaGreatZC1
set_option linter.unusedSimpArgs false
set_option linter.unusedVariables false
namespace Go.Proofs.YtipigjckoejfpaaGreat.Ax
open Go Go.Ax Go.Ax.M

section
variable {H : Heap} {K : AVal → Heap → Prop}

theorem kb {x y : Bool} (h : K (.bool y) H) (e : x = y) : K (.bool x) H := e ▸ h
theorem ki {k : IntKind} {x y : Int} (h : K (.int k y) H) (e : x = y) : K (.int k x) H := e ▸ h

theorem tb {x y : Bool} {H' : Heap} (h : K (.bool y) H) (hx : ∃ L, H' = H ++ L) (e : x = y) : (AVal.bool x).plain = true ∧ (∃ L, H' = H ++ L) ∧ K (.bool x) H := ⟨rfl, hx, e ▸ h⟩
theorem ti {k : IntKind} {x y : Int} {H' : Heap} (h : K (.int k y) H) (hx : ∃ L, H' = H ++ L) (e : x = y) : (AVal.int k x).plain = true ∧ (∃ L, H' = H ++ L) ∧ K (.int k x) H := ⟨rfl, hx, e ▸ h⟩
theorem tv {x y : AVal} {H' : Heap} (h : K y H) (hx : ∃ L, H' = H ++ L) (e : x = y ∧ x.plain = true) : x.plain = true ∧ (∃ L, H' = H ++ L) ∧ K x H := ⟨e.2, hx, e.1 ▸ h⟩

theorem right_Good_spec {r : Int} (h : K (.bool (rGood r)) H) : ACalls Tryz.prog 132 [.int .i64 r] H K := by
  refine ACalls.into ok132 (Nat.le_of_ble_eq_true rfl) ?_; (try simp only [c132, wpx_of k132_0.eq_1, go_sem]); repeat' ((first
    | refine And.intro (Or.inr rfl) ?_
    | ((first | refine cB ?_ ?_ | refine gT ?_ ?_ | refine gF ?_ ?_ | refine dT ?_ ?_ | refine dF ?_ ?_) <;> intro hc)) <;> try simp only [*, wpx_of k132_0.eq_1, go_sem])
  all_goals (refine kb h ?_; first | (simp only [rGood, inB, *, cond_true, cond_false, Bool.and_true, Bool.true_and, Bool.and_false, Bool.false_and, Bool.or_true, Bool.true_or, Bool.or_false, Bool.false_or, Bool.not_true, Bool.not_false, decide_true, decide_false, go_sem]; done) | (simp_all [rGood, inB]; done) | (simp_all [rGood, inB]; omega) | grind [rGood, inB])

theorem right_of_spec {r : Int} (h : K (.int .i64 (rOf r)) H) : ACalls Tryz.prog 238 [.int .i64 r] H K := by
  refine ACalls.into ok238 (Nat.le_of_ble_eq_true rfl) ?_; (try simp only [c238, wpx_of k238_0.eq_1, wpx_of k238_1.eq_1, go_sem]); repeat' ((first
    | refine And.intro (Or.inr rfl) ?_
    | ((first | refine cB ?_ ?_ | refine gT ?_ ?_ | refine gF ?_ ?_ | refine dT ?_ ?_ | refine dF ?_ ?_) <;> intro hc)
    | refine right_Good_spec ?_) <;> try simp only [*, wpx_of k238_0.eq_1, wpx_of k238_1.eq_1, go_sem])
  all_goals (refine ki h ?_; first | (simp only [rOf, *, cond_true, cond_false, Bool.and_true, Bool.true_and, Bool.and_false, Bool.false_and, Bool.or_true, Bool.true_or, Bool.or_false, Bool.false_or, Bool.not_true, Bool.not_false, decide_true, decide_false, go_sem]; done) | (simp_all [rOf]; done) | (simp_all [rOf]; omega) | grind [rOf])

theorem right_Less_spec {a b : Int} (h : K (.int .i64 (rLess a b)) H) : ACalls Tryz.prog 176 [.int .i64 a, .int .i64 b] H K := by
  refine ACalls.into ok176 (Nat.le_of_ble_eq_true rfl) ?_; (try simp only [c176, wpx_of k176_0.eq_1, go_sem]); repeat' ((first
    | refine And.intro (Or.inr rfl) ?_
    | ((first | refine cB ?_ ?_ | refine gT ?_ ?_ | refine gF ?_ ?_ | refine dT ?_ ?_ | refine dF ?_ ?_) <;> intro hc)
    | refine right_of_spec ?_) <;> try simp only [*, wpx_of k176_0.eq_1, go_sem])
  simpa [rLess, IntKind.bits] using h

theorem right_Both_spec {a b : Int} (h : K (.int .i64 (rBoth a b)) H) : ACalls Tryz.prog 248 [.int .i64 a, .int .i64 b] H K := by
  refine ACalls.into ok248 (Nat.le_of_ble_eq_true rfl) ?_; (try simp only [c248, wpx_of k248_0.eq_1, go_sem]); repeat' ((first
    | refine And.intro (Or.inr rfl) ?_
    | ((first | refine cB ?_ ?_ | refine gT ?_ ?_ | refine gF ?_ ?_ | refine dT ?_ ?_ | refine dF ?_ ?_) <;> intro hc)
    | refine right_of_spec ?_) <;> try simp only [*, wpx_of k248_0.eq_1, go_sem])
  simpa [rBoth, IntKind.bits] using h

theorem right_Within_spec {a b : Int} (h : K (.bool (rWithin a b)) H) : ACalls Tryz.prog 104 [.int .i64 a, .int .i64 b] H K := by
  refine ACalls.into ok104 (Nat.le_of_ble_eq_true rfl) ?_; (try simp only [c104, wpx_of k104_0.eq_1, go_sem]); repeat' ((first
    | refine And.intro (Or.inr rfl) ?_
    | ((first | refine cB ?_ ?_ | refine gT ?_ ?_ | refine gF ?_ ?_ | refine dT ?_ ?_ | refine dF ?_ ?_) <;> intro hc)
    | refine right_Less_spec ?_) <;> try simp only [*, wpx_of k104_0.eq_1, go_sem])
  simpa [rWithin] using h

theorem right_Badge_spec {b : Int} (h : K (.bool (rBadge b)) H) : ACalls Tryz.prog 133 [.int .i64 b] H K := by
  refine ACalls.into ok133 (Nat.le_of_ble_eq_true rfl) ?_; (try simp only [c133, wpx_of k133_0.eq_1, go_sem]); repeat' ((first
    | refine And.intro (Or.inr rfl) ?_
    | ((first | refine cB ?_ ?_ | refine gT ?_ ?_ | refine gF ?_ ?_ | refine dT ?_ ?_ | refine dF ?_ ?_) <;> intro hc)) <;> try simp only [*, wpx_of k133_0.eq_1, go_sem])
  all_goals (refine kb h ?_; first | (simp only [rBadge, inB, *, cond_true, cond_false, Bool.and_true, Bool.true_and, Bool.and_false, Bool.false_and, Bool.or_true, Bool.true_or, Bool.or_false, Bool.false_or, Bool.not_true, Bool.not_false, decide_true, decide_false, go_sem]; done) | (simp_all [rBadge, inB]; done) | (simp_all [rBadge, inB]; omega) | grind [rBadge, inB])

theorem geo_in_spec {n lo hi : Int} (h : K (.bool (inB n lo hi)) H) : ACalls Tryz.prog 170 [.int .i64 n, .int .i64 lo, .int .i64 hi] H K := by
  refine ACalls.into ok170 (Nat.le_of_ble_eq_true rfl) ?_; (try simp only [c170, wpx_of k170_0.eq_1, go_sem]); repeat' ((first
    | refine And.intro (Or.inr rfl) ?_
    | ((first | refine cB ?_ ?_ | refine gT ?_ ?_ | refine gF ?_ ?_ | refine dT ?_ ?_ | refine dF ?_ ?_) <;> intro hc)) <;> try simp only [*, wpx_of k170_0.eq_1, go_sem])
  all_goals (refine kb h ?_; first | (simp only [inB, *, cond_true, cond_false, Bool.and_true, Bool.true_and, Bool.and_false, Bool.false_and, Bool.or_true, Bool.true_or, Bool.or_false, Bool.false_or, Bool.not_true, Bool.not_false, decide_true, decide_false, go_sem]; done) | (simp_all [inB]; done) | (simp_all [inB]; omega) | grind [inB])

theorem w64 {n : Int} (h1 : -9223372036854775808 ≤ n) (h2 : n ≤ 9223372036854775807) : IntKind.wrap .i64 n = n := by
  simp [IntKind.wrap, IntKind.bits, IntKind.signed]; omega

theorem geo_Good_spec {g : Geo} (h : K (.bool (gGood g)) H) : ACalls Tryz.prog 94 [.agg g.cells] H K := by
  unfold Geo.cells
  have e : inB g.threads 1 4 = true → IntKind.wrap .i64 (8 * g.threads) = 8 * g.threads ∧ IntKind.wrap .i64 (g.threads + 2) = g.threads + 2 := by
    intro h; simp [inB] at h; exact ⟨w64 (by omega) (by omega), w64 (by omega) (by omega)⟩
  refine ACalls.tidy ?_
  refine ACalls.into ok94 (Nat.le_of_ble_eq_true rfl) ?_; (try simp only [c94, wpx_of k94_0.eq_1, go_sem]); repeat' ((first
    | refine And.intro (Or.inr rfl) ?_
    | ((first | refine cB ?_ ?_ | refine gT ?_ ?_ | refine gF ?_ ?_ | refine dT ?_ ?_ | refine dF ?_ ?_) <;> intro hc)
    | refine geo_in_spec ?_) <;> try simp only [*, wpx_of k94_0.eq_1, go_sem])
  all_goals (refine tb h (by first | exact ⟨_, rfl⟩ | exact ⟨[], (List.append_nil _).symm⟩ | exact hx | exact hx.app _) ?_; first | (simp only [gGood, *, cond_true, cond_false, Bool.and_true, Bool.true_and, Bool.and_false, Bool.false_and, Bool.or_true, Bool.true_or, Bool.or_false, Bool.false_or, Bool.not_true, Bool.not_false, decide_true, decide_false, go_sem]; done) | (simp_all [gGood]; done) | (simp_all [gGood]; omega) | grind [gGood])

theorem gGood_b {g : Geo} (h : gGood g = true) : 1 ≤ g.threads ∧ g.threads ≤ 4 ∧ 8 * g.threads ≤ g.slots ∧ g.slots ≤ 96 ∧ g.slots.tmod 8 = 0 ∧ g.threads + 2 ≤ g.things ∧ g.things ≤ 48 := by
  simp [gGood, inB] at h; omega

theorem geo_Root_spec {g : Geo} {t : Int} (h : K (.int .i64 (gRoot g t)) H) : ACalls Tryz.prog 160 [.agg g.cells, .int .i64 t] H K := by
  have e1 : gGood g = true → IntKind.wrap .i64 (g.threads - 1) = g.threads - 1 := fun h => w64 (by have := gGood_b h; omega) (by have := gGood_b h; omega)
  have e2 : gGood g = true → inB t 0 (g.threads - 1) = true → IntKind.wrap .i64 (8 * t) = 8 * t := fun h h2 => by
    have := gGood_b h
    simp [inB] at h2
    exact w64 (by omega) (by omega)
  refine ACalls.tidy ?_
  unfold Geo.cells
  refine ACalls.into ok160 (Nat.le_of_ble_eq_true rfl) ?_; (try simp only [c160, wpx_of k160_0.eq_1, wpx_of k160_1.eq_1, wpx_of k160_2.eq_1, e1, go_sem]); repeat' ((first
    | refine And.intro (Or.inr rfl) ?_
    | ((first | refine cB ?_ ?_ | refine gT ?_ ?_ | refine gF ?_ ?_ | refine dT ?_ ?_ | refine dF ?_ ?_) <;> intro hc)
    | refine geo_Good_spec (g := g) ?_
    | refine geo_in_spec ?_) <;> try simp only [*, wpx_of k160_0.eq_1, wpx_of k160_1.eq_1, wpx_of k160_2.eq_1, e1, go_sem])
  all_goals (refine ti h (by first | exact ⟨_, rfl⟩ | exact ⟨[], (List.append_nil _).symm⟩ | exact hx | exact hx.app _) ?_; first | (simp only [gRoot, *, cond_true, cond_false, Bool.and_true, Bool.true_and, Bool.and_false, Bool.false_and, Bool.or_true, Bool.true_or, Bool.or_false, Bool.false_or, Bool.not_true, Bool.not_false, decide_true, decide_false, go_sem]; done) | (simp_all [gRoot]; done) | (simp_all [gRoot]; omega) | grind [gRoot])

theorem cap_in_spec {n lo hi : Int} (h : K (.bool (inB n lo hi)) H) : ACalls Tryz.prog 131 [.int .i64 n, .int .i64 lo, .int .i64 hi] H K := by
  refine ACalls.into ok131 (Nat.le_of_ble_eq_true rfl) ?_; (try simp only [c131, wpx_of k131_0.eq_1, go_sem]); repeat' ((first
    | refine And.intro (Or.inr rfl) ?_
    | ((first | refine cB ?_ ?_ | refine gT ?_ ?_ | refine gF ?_ ?_ | refine dT ?_ ?_ | refine dF ?_ ?_) <;> intro hc)) <;> try simp only [*, wpx_of k131_0.eq_1, go_sem])
  all_goals (refine kb h ?_; first | (simp only [inB, *, cond_true, cond_false, Bool.and_true, Bool.true_and, Bool.and_false, Bool.false_and, Bool.or_true, Bool.true_or, Bool.or_false, Bool.false_or, Bool.not_true, Bool.not_false, decide_true, decide_false, go_sem]; done) | (simp_all [inB]; done) | (simp_all [inB]; omega) | grind [inB])

theorem cap_badged_spec {n : Int} (h : K (.bool (cBadged n)) H) : ACalls Tryz.prog 134 [.int .i64 n] H K := by
  refine ACalls.into ok134 (Nat.le_of_ble_eq_true rfl) ?_; (try simp only [c134, wpx_of k134_0.eq_1, go_sem]); repeat' ((first
    | refine And.intro (Or.inr rfl) ?_
    | ((first | refine cB ?_ ?_ | refine gT ?_ ?_ | refine gF ?_ ?_ | refine dT ?_ ?_ | refine dF ?_ ?_) <;> intro hc)) <;> try simp only [*, wpx_of k134_0.eq_1, go_sem])
  all_goals (refine kb h ?_; first | (simp only [cBadged, *, cond_true, cond_false, Bool.and_true, Bool.true_and, Bool.and_false, Bool.false_and, Bool.or_true, Bool.true_or, Bool.or_false, Bool.false_or, Bool.not_true, Bool.not_false, decide_true, decide_false, go_sem]; done) | (simp_all [cBadged]; done) | (simp_all [cBadged]; omega) | grind [cBadged])

theorem cap_None_spec {c : Cap} (h : K (.bool (cNone c)) H) : ACalls Tryz.prog 68 [.agg c.cells] H K := by
  refine ACalls.tidy ?_
  unfold Cap.cells
  refine ACalls.into ok68 (Nat.le_of_ble_eq_true rfl) ?_; (try simp only [c68, wpx_of k68_0.eq_1, go_sem]); repeat' ((first
    | refine And.intro (Or.inr rfl) ?_
    | ((first | refine cB ?_ ?_ | refine gT ?_ ?_ | refine gF ?_ ?_ | refine dT ?_ ?_ | refine dF ?_ ?_) <;> intro hc)) <;> try simp only [*, wpx_of k68_0.eq_1, go_sem])
  all_goals (refine tb h (by first | exact ⟨_, rfl⟩ | exact ⟨[], (List.append_nil _).symm⟩ | exact hx | exact hx.app _) ?_; first | (simp only [cNone, *, cond_true, cond_false, Bool.and_true, Bool.true_and, Bool.and_false, Bool.false_and, Bool.or_true, Bool.true_or, Bool.or_false, Bool.false_or, Bool.not_true, Bool.not_false, decide_true, decide_false, go_sem]; done) | (simp_all [cNone]; done) | (simp_all [cNone]; omega) | grind [cNone])

theorem cap_Good_spec {c : Cap} (h : K (.bool (cGood c)) H) : ACalls Tryz.prog 51 [.agg c.cells] H K := by
  refine ACalls.tidy ?_
  unfold Cap.cells
  refine ACalls.into ok51 (Nat.le_of_ble_eq_true rfl) ?_; (try simp only [c51, wpx_of k51_0.eq_1, wpx_of k51_1.eq_1, wpx_of k51_2.eq_1, go_sem]); repeat' ((first
    | refine And.intro (Or.inr rfl) ?_
    | ((first | refine cB ?_ ?_ | refine gT ?_ ?_ | refine gF ?_ ?_ | refine dT ?_ ?_ | refine dF ?_ ?_) <;> intro hc)
    | refine cap_None_spec (c := c) ?_
    | refine cap_in_spec ?_
    | refine right_Good_spec ?_
    | refine right_Badge_spec ?_
    | refine cap_badged_spec ?_) <;> try simp only [*, wpx_of k51_0.eq_1, wpx_of k51_1.eq_1, wpx_of k51_2.eq_1, go_sem])
  all_goals (refine tb h (by first | exact ⟨_, rfl⟩ | exact ⟨[], (List.append_nil _).symm⟩ | exact hx | exact hx.app _) ?_; first | (simp only [cGood, *, cond_true, cond_false, Bool.and_true, Bool.true_and, Bool.and_false, Bool.false_and, Bool.or_true, Bool.true_or, Bool.or_false, Bool.false_or, Bool.not_true, Bool.not_false, decide_true, decide_false, go_sem]; done) | (simp_all [cGood]; done) | (simp_all [cGood]; omega) | grind [cGood])

theorem cap_Cut_spec {c : Cap} {r : Int} (h : K (.agg (cCut c r).cells) H) : ACalls Tryz.prog 210 [.agg c.cells, .int .i64 r] H K := by
  refine ACalls.tidy ?_
  unfold Cap.cells
  refine ACalls.into ok210 (Nat.le_of_ble_eq_true rfl) ?_; (try simp only [c210, wpx_of k210_0.eq_1, wpx_of k210_1.eq_1, wpx_of k210_2.eq_1, go_sem]); repeat' ((first
    | refine And.intro (Or.inr rfl) ?_
    | ((first | refine cB ?_ ?_ | refine gT ?_ ?_ | refine gF ?_ ?_ | refine dT ?_ ?_ | refine dF ?_ ?_) <;> intro hc)
    | refine cap_Good_spec (c := c) ?_
    | refine right_Both_spec ?_) <;> try simp only [*, wpx_of k210_0.eq_1, wpx_of k210_1.eq_1, wpx_of k210_2.eq_1, go_sem])
  all_goals (refine tv h (by first | exact ⟨_, rfl⟩ | exact ⟨[], (List.append_nil _).symm⟩ | exact hx | exact hx.app _) ?_; first | (simp only [cCut, Cap.cells, Cap.zero, AVal.plain, plains, *, cond_true, cond_false, Bool.and_true, Bool.true_and, Bool.and_false, Bool.false_and, Bool.or_true, Bool.true_or, Bool.or_false, Bool.false_or, Bool.not_true, Bool.not_false, decide_true, decide_false, go_sem]; done) | (simp_all [cCut, Cap.cells, Cap.zero, AVal.plain, plains]; done) | (simp_all [cCut, Cap.cells, Cap.zero, AVal.plain, plains]; omega) | grind [cCut, Cap.cells, Cap.zero, AVal.plain, plains])

theorem cap_Stamp_spec {c : Cap} {b : Int} (h : K (.tup [.agg (cStamp c b).1.cells, .int .i64 (cStamp c b).2]) H) : ACalls Tryz.prog 211 [.agg c.cells, .int .i64 b] H K := by
  refine ACalls.tidy ?_
  unfold Cap.cells
  refine ACalls.into ok211 (Nat.le_of_ble_eq_true rfl) ?_; (try simp only [c211, wpx_of k211_0.eq_1, wpx_of k211_1.eq_1, wpx_of k211_2.eq_1, wpx_of k211_3.eq_1, wpx_of k211_4.eq_1, wpx_of k211_5.eq_1, wpx_of k211_6.eq_1, wpx_of k211_7.eq_1, wpx_of k211_8.eq_1, wpx_of k211_9.eq_1, go_sem]); repeat' ((first
    | refine And.intro (Or.inr rfl) ?_
    | ((first | refine cB ?_ ?_ | refine gT ?_ ?_ | refine gF ?_ ?_ | refine dT ?_ ?_ | refine dF ?_ ?_) <;> intro hc)
    | refine cap_Good_spec (c := c) ?_
    | refine right_Badge_spec ?_
    | refine cap_badged_spec ?_) <;> try simp only [*, wpx_of k211_0.eq_1, wpx_of k211_1.eq_1, wpx_of k211_2.eq_1, wpx_of k211_3.eq_1, wpx_of k211_4.eq_1, wpx_of k211_5.eq_1, wpx_of k211_6.eq_1, wpx_of k211_7.eq_1, wpx_of k211_8.eq_1, wpx_of k211_9.eq_1, go_sem])
  all_goals (refine tv h (by first | exact ⟨_, rfl⟩ | exact ⟨[], (List.append_nil _).symm⟩ | exact hx | exact hx.app _) ?_; first | (simp only [cStamp, Cap.cells, Cap.zero, AVal.plain, plains, *, cond_true, cond_false, Bool.and_true, Bool.true_and, Bool.and_false, Bool.false_and, Bool.or_true, Bool.true_or, Bool.or_false, Bool.false_or, Bool.not_true, Bool.not_false, decide_true, decide_false, go_sem]; done) | (simp_all [cStamp, Cap.cells, Cap.zero, AVal.plain, plains]; done) | (simp_all [cStamp, Cap.cells, Cap.zero, AVal.plain, plains]; omega) | grind [cStamp, Cap.cells, Cap.zero, AVal.plain, plains])

theorem cap_Less_spec {a b : Cap} (h : K (.bool (cLess a b)) H) : ACalls Tryz.prog 93 [.agg a.cells, .agg b.cells] H K := by
  refine ACalls.tidy ?_
  unfold Cap.cells
  refine ACalls.into ok93 (Nat.le_of_ble_eq_true rfl) ?_; (try simp only [c93, wpx_of k93_0.eq_1, wpx_of k93_1.eq_1, wpx_of k93_2.eq_1, go_sem]); repeat' ((first
    | refine And.intro (Or.inr rfl) ?_
    | ((first | refine cB ?_ ?_ | refine gT ?_ ?_ | refine gF ?_ ?_ | refine dT ?_ ?_ | refine dF ?_ ?_) <;> intro hc)
    | refine cap_None_spec (c := a) ?_
    | refine right_Within_spec ?_) <;> try simp only [*, wpx_of k93_0.eq_1, wpx_of k93_1.eq_1, wpx_of k93_2.eq_1, go_sem])
  all_goals (refine tb h (by first | exact ⟨_, rfl⟩ | exact ⟨[], (List.append_nil _).symm⟩ | exact hx | exact hx.app _) ?_; first | (simp only [cLess, *, cond_true, cond_false, Bool.and_true, Bool.true_and, Bool.and_false, Bool.false_and, Bool.or_true, Bool.true_or, Bool.or_false, Bool.false_or, Bool.not_true, Bool.not_false, decide_true, decide_false, go_sem]; done) | (simp_all [cLess]; done) | (simp_all [cLess]; omega) | grind [cLess])

section
variable {x0 x1 x2 x3 y0 y1 y2 y3 n : Int}
theorem geo_Good_x (h : K (.bool (gGood ⟨x0, x1, x2⟩)) H) : ACalls Tryz.prog 94 [.agg [.int .i64 x0, .int .i64 x1, .int .i64 x2]] H K := geo_Good_spec (g := ⟨x0, x1, x2⟩) h
theorem geo_Root_x (h : K (.int .i64 (gRoot ⟨x0, x1, x2⟩ n)) H) : ACalls Tryz.prog 160 [.agg [.int .i64 x0, .int .i64 x1, .int .i64 x2], .int .i64 n] H K := geo_Root_spec (g := ⟨x0, x1, x2⟩) h
theorem cap_None_x (h : K (.bool (cNone ⟨x0, x1, x2, x3⟩)) H) : ACalls Tryz.prog 68 [.agg [.int .i64 x0, .int .i64 x1, .int .i64 x2, .int .i64 x3]] H K := cap_None_spec (c := ⟨x0, x1, x2, x3⟩) h
theorem cap_Good_x (h : K (.bool (cGood ⟨x0, x1, x2, x3⟩)) H) : ACalls Tryz.prog 51 [.agg [.int .i64 x0, .int .i64 x1, .int .i64 x2, .int .i64 x3]] H K := cap_Good_spec (c := ⟨x0, x1, x2, x3⟩) h
theorem cap_Cut_x (h : K (.agg (cCut ⟨x0, x1, x2, x3⟩ n).cells) H) : ACalls Tryz.prog 210 [.agg [.int .i64 x0, .int .i64 x1, .int .i64 x2, .int .i64 x3], .int .i64 n] H K := cap_Cut_spec (c := ⟨x0, x1, x2, x3⟩) h
theorem cap_Stamp_x (h : K (.tup [.agg (cStamp ⟨x0, x1, x2, x3⟩ n).1.cells, .int .i64 (cStamp ⟨x0, x1, x2, x3⟩ n).2]) H) : ACalls Tryz.prog 211 [.agg [.int .i64 x0, .int .i64 x1, .int .i64 x2, .int .i64 x3], .int .i64 n] H K := cap_Stamp_spec (c := ⟨x0, x1, x2, x3⟩) h
theorem cap_Less_x (h : K (.bool (cLess ⟨x0, x1, x2, x3⟩ ⟨y0, y1, y2, y3⟩)) H) : ACalls Tryz.prog 93 [.agg [.int .i64 x0, .int .i64 x1, .int .i64 x2, .int .i64 x3], .agg [.int .i64 y0, .int .i64 y1, .int .i64 y2, .int .i64 y3]] H K := cap_Less_spec (a := ⟨x0, x1, x2, x3⟩) (b := ⟨y0, y1, y2, y3⟩) h
end

end
end Go.Proofs.YtipigjckoejfpaaGreat.Ax
