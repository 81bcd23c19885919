/- The base layers: what the program's functions answer: rights, places, capabilities. Conditions: none. -/
import Derived.Test.YtlaipllgmddkiaaGreatMBaseZ
import Derived.Test.YtlaipllgmddkiaaGreatZC1
set_option linter.all false
namespace Go.Proofs.YtlaipllgmddkiaaGreat.Ax
open Go Go.Ax Go.Ax.M
section
variable {H : Heap} {K : AVal → Heap → Prop}
theorem kb {x y : Bool} (h : K (.bool y) H) (e : x = y) : K (.bool x) H := e ▸ h
theorem ki {k : IntKind} {x y : Int} (h : K (.int k y) H) (e : x = y) : K (.int k x) H := e ▸ h
theorem tb {x y : Bool} {H' : Heap} (h : K (.bool y) H) (hx : ∃ L, H' = H ++ L) (e : x = y) : (AVal.bool x).plain = true ∧ (∃ L, H' = H ++ L) ∧ K (.bool x) H := ⟨rfl, hx, e ▸ h⟩
theorem ti {k : IntKind} {x y : Int} {H' : Heap} (h : K (.int k y) H) (hx : ∃ L, H' = H ++ L) (e : x = y) : (AVal.int k x).plain = true ∧ (∃ L, H' = H ++ L) ∧ K (.int k x) H := ⟨rfl, hx, e ▸ h⟩
theorem tv {x y : AVal} {H' : Heap} (h : K y H) (hx : ∃ L, H' = H ++ L) (e : x = y ∧ x.plain = true) : x.plain = true ∧ (∃ L, H' = H ++ L) ∧ K x H := ⟨e.2, hx, e.1 ▸ h⟩
theorem right_Good_spec {r : Int} (h : K (.bool (rGood r)) H) : ACalls Tryz.prog 195 [.int .i64 r] H K := by
 refine into ok195 ?_; (try simp only [c195, wpx_of k195_0.eq_1, go_sem]); repeat' ((first | refine orR ?_ | (refine sp ?_ ?_ <;> intro hc) | fail) <;> try simp only [*, wpx_of k195_0.eq_1, go_sem])
 all_goals (refine kb h ?_; first | (simp only [rGood, inB, *, bs, go_sem]; done) | (simp_all [rGood, inB]; done) | (simp_all [rGood, inB]; omega) | grind [rGood, inB])
theorem right_of_spec {r : Int} (h : K (.int .i64 (rOf r)) H) : ACalls Tryz.prog 214 [.int .i64 r] H K := by
 refine into ok214 ?_; (try simp only [c214, w214, go_sem]); repeat' ((first | refine orR ?_ | (refine sp ?_ ?_ <;> intro hc) | refine right_Good_spec ?_) <;> try simp only [*, w214, go_sem])
 all_goals (refine ki h ?_; first | (simp only [rOf, *, bs, go_sem]; done) | (simp_all [rOf]; done) | (simp_all [rOf]; omega) | grind [rOf])
theorem right_Less_spec {a b : Int} (h : K (.int .i64 (rLess a b)) H) : ACalls Tryz.prog 147 [.int .i64 a, .int .i64 b] H K := by
 refine into ok147 ?_; (try simp only [c147, wpx_of k147_0.eq_1, go_sem]); repeat' ((first | refine orR ?_ | (refine sp ?_ ?_ <;> intro hc) | refine right_of_spec ?_) <;> try simp only [*, wpx_of k147_0.eq_1, go_sem])
 simpa [rLess, IntKind.bits] using h
theorem right_Both_spec {a b : Int} (h : K (.int .i64 (rBoth a b)) H) : ACalls Tryz.prog 224 [.int .i64 a, .int .i64 b] H K := by
 refine into ok224 ?_; (try simp only [c224, wpx_of k224_0.eq_1, go_sem]); repeat' ((first | refine orR ?_ | (refine sp ?_ ?_ <;> intro hc) | refine right_of_spec ?_) <;> try simp only [*, wpx_of k224_0.eq_1, go_sem])
 simpa [rBoth, IntKind.bits] using h
theorem right_Within_spec {a b : Int} (h : K (.bool (rWithin a b)) H) : ACalls Tryz.prog 80 [.int .i64 a, .int .i64 b] H K := by
 refine into ok80 ?_; (try simp only [c80, wpx_of k80_0.eq_1, go_sem]); repeat' ((first | refine orR ?_ | (refine sp ?_ ?_ <;> intro hc) | refine right_Less_spec ?_) <;> try simp only [*, wpx_of k80_0.eq_1, go_sem])
 simpa [rWithin] using h
theorem right_Badge_spec {b : Int} (h : K (.bool (rBadge b)) H) : ACalls Tryz.prog 208 [.int .i64 b] H K := by
 refine into ok208 ?_; (try simp only [c208, wpx_of k208_0.eq_1, go_sem]); repeat' ((first | refine orR ?_ | (refine sp ?_ ?_ <;> intro hc) | fail) <;> try simp only [*, wpx_of k208_0.eq_1, go_sem])
 all_goals (refine kb h ?_; first | (simp only [rBadge, inB, *, bs, go_sem]; done) | (simp_all [rBadge, inB]; done) | (simp_all [rBadge, inB]; omega) | grind [rBadge, inB])
theorem geo_in_spec {n lo hi : Int} (h : K (.bool (inB n lo hi)) H) : ACalls Tryz.prog 140 [.int .i64 n, .int .i64 lo, .int .i64 hi] H K := by
 refine into ok140 ?_; (try simp only [c140, wpx_of k140_0.eq_1, go_sem]); repeat' ((first | refine orR ?_ | (refine sp ?_ ?_ <;> intro hc) | fail) <;> try simp only [*, wpx_of k140_0.eq_1, go_sem])
 all_goals (refine kb h ?_; first | (simp only [inB, *, bs, go_sem]; done) | (simp_all [inB]; done) | (simp_all [inB]; omega) | grind [inB])
theorem w64 {n : Int} (h1 : -9223372036854775808 ≤ n) (h2 : n ≤ 9223372036854775807) : IntKind.wrap .i64 n = n := by
 simp [IntKind.wrap, IntKind.bits, IntKind.signed]; omega
theorem geo_Good_spec {g : Geo} (h : K (.bool (gGood g)) H) : ACalls Tryz.prog 70 [.agg g.cells] H K := by
 unfold Geo.cells
 have e : inB g.threads 1 4 = true → IntKind.wrap .i64 (8 * g.threads) = 8 * g.threads ∧ IntKind.wrap .i64 (g.threads + 2) = g.threads + 2 := by
  intro h; simp [inB] at h; exact ⟨w64 (by omega) (by omega), w64 (by omega) (by omega)⟩
 refine ACalls.tidy ?_
 refine into ok70 ?_; (try simp only [c70, wpx_of k70_0.eq_1, go_sem]); repeat' ((first | refine orR ?_ | (refine sp ?_ ?_ <;> intro hc) | refine geo_in_spec ?_) <;> try simp only [*, wpx_of k70_0.eq_1, go_sem])
 all_goals (refine tb h (by first | exact ⟨_, rfl⟩ | exact ⟨[], (List.append_nil _).symm⟩ | exact hx | exact hx.app _) ?_; first | (simp only [gGood, *, bs, go_sem]; done) | (simp_all [gGood]; done) | (simp_all [gGood]; omega) | grind [gGood])
theorem gGood_b {g : Geo} (h : gGood g = true) : 1 ≤ g.threads ∧ g.threads ≤ 4 ∧ 8 * g.threads ≤ g.slots ∧ g.slots ≤ 96 ∧ g.slots.tmod 8 = 0 ∧ g.threads + 2 ≤ g.things ∧ g.things ≤ 48 := by
 simp [gGood, inB] at h; omega
theorem geo_Root_spec {g : Geo} {t : Int} (h : K (.int .i64 (gRoot g t)) H) : ACalls Tryz.prog 129 [.agg g.cells, .int .i64 t] H K := by
 have e1 : gGood g = true → IntKind.wrap .i64 (g.threads - 1) = g.threads - 1 := fun h => w64 (by have := gGood_b h; omega) (by have := gGood_b h; omega)
 have e2 : gGood g = true → inB t 0 (g.threads - 1) = true → IntKind.wrap .i64 (8 * t) = 8 * t := fun h h2 => by
  have := gGood_b h
  simp [inB] at h2
  exact w64 (by omega) (by omega)
 refine ACalls.tidy ?_
 unfold Geo.cells
 refine into ok129 ?_; (try simp only [c129, w129, e1, go_sem]); repeat' ((first | refine orR ?_ | (refine sp ?_ ?_ <;> intro hc) | refine geo_Good_spec (g := g) ?_ | refine geo_in_spec ?_) <;> try simp only [*, w129, e1, go_sem])
 all_goals (refine ti h (by first | exact ⟨_, rfl⟩ | exact ⟨[], (List.append_nil _).symm⟩ | exact hx | exact hx.app _) ?_; first | (simp only [gRoot, *, bs, go_sem]; done) | (simp_all [gRoot]; done) | (simp_all [gRoot]; omega) | grind [gRoot])
theorem cap_in_spec {n lo hi : Int} (h : K (.bool (inB n lo hi)) H) : ACalls Tryz.prog 207 [.int .i64 n, .int .i64 lo, .int .i64 hi] H K := by
 refine into ok207 ?_; (try simp only [c207, wpx_of k207_0.eq_1, go_sem]); repeat' ((first | refine orR ?_ | (refine sp ?_ ?_ <;> intro hc) | fail) <;> try simp only [*, wpx_of k207_0.eq_1, go_sem])
 all_goals (refine kb h ?_; first | (simp only [inB, *, bs, go_sem]; done) | (simp_all [inB]; done) | (simp_all [inB]; omega) | grind [inB])
theorem cap_badged_spec {n : Int} (h : K (.bool (cBadged n)) H) : ACalls Tryz.prog 209 [.int .i64 n] H K := by
 refine into ok209 ?_; (try simp only [c209, wpx_of k209_0.eq_1, go_sem]); repeat' ((first | refine orR ?_ | (refine sp ?_ ?_ <;> intro hc) | fail) <;> try simp only [*, wpx_of k209_0.eq_1, go_sem])
 all_goals (refine kb h ?_; first | (simp only [cBadged, *, bs, go_sem]; done) | (simp_all [cBadged]; done) | (simp_all [cBadged]; omega) | grind [cBadged])
theorem cap_None_spec {c : Cap} (h : K (.bool (cNone c)) H) : ACalls Tryz.prog 59 [.agg c.cells] H K := by
 refine ACalls.tidy ?_
 unfold Cap.cells
 refine into ok59 ?_; (try simp only [c59, wpx_of k59_0.eq_1, go_sem]); repeat' ((first | refine orR ?_ | (refine sp ?_ ?_ <;> intro hc) | fail) <;> try simp only [*, wpx_of k59_0.eq_1, go_sem])
 all_goals (refine tb h (by first | exact ⟨_, rfl⟩ | exact ⟨[], (List.append_nil _).symm⟩ | exact hx | exact hx.app _) ?_; first | (simp only [cNone, *, bs, go_sem]; done) | (simp_all [cNone]; done) | (simp_all [cNone]; omega) | grind [cNone])
theorem cap_Good_spec {c : Cap} (h : K (.bool (cGood c)) H) : ACalls Tryz.prog 141 [.agg c.cells] H K := by
 refine ACalls.tidy ?_
 unfold Cap.cells
 refine into ok141 ?_; (try simp only [c141, w141, go_sem]); repeat' ((first | refine orR ?_ | (refine sp ?_ ?_ <;> intro hc) | refine cap_None_spec (c := c) ?_ | refine cap_in_spec ?_ | refine right_Good_spec ?_ | refine right_Badge_spec ?_ | refine cap_badged_spec ?_) <;> try simp only [*, w141, go_sem])
 all_goals (refine tb h (by first | exact ⟨_, rfl⟩ | exact ⟨[], (List.append_nil _).symm⟩ | exact hx | exact hx.app _) ?_; first | (simp only [cGood, *, bs, go_sem]; done) | (simp_all [cGood]; done) | (simp_all [cGood]; omega) | grind [cGood])
theorem cap_Cut_spec {c : Cap} {r : Int} (h : K (.agg (cCut c r).cells) H) : ACalls Tryz.prog 181 [.agg c.cells, .int .i64 r] H K := by
 refine ACalls.tidy ?_
 unfold Cap.cells
 refine into ok181 ?_; (try simp only [c181, w181, go_sem]); repeat' ((first | refine orR ?_ | (refine sp ?_ ?_ <;> intro hc) | refine cap_Good_spec (c := c) ?_ | refine right_Both_spec ?_) <;> try simp only [*, w181, go_sem])
 all_goals (refine tv h (by first | exact ⟨_, rfl⟩ | exact ⟨[], (List.append_nil _).symm⟩ | exact hx | exact hx.app _) ?_; first | (simp only [cCut, Cap.cells, Cap.zero, AVal.plain, plains, *, bs, go_sem]; done) | (simp_all [cCut, Cap.cells, Cap.zero, AVal.plain, plains]; done) | (simp_all [cCut, Cap.cells, Cap.zero, AVal.plain, plains]; omega) | grind [cCut, Cap.cells, Cap.zero, AVal.plain, plains])
theorem cap_Stamp_spec {c : Cap} {b : Int} (h : K (.tup [.agg (cStamp c b).1.cells, .int .i64 (cStamp c b).2]) H) : ACalls Tryz.prog 182 [.agg c.cells, .int .i64 b] H K := by
 refine ACalls.tidy ?_
 unfold Cap.cells
 refine into ok182 ?_; (try simp only [c182, w182, go_sem]); repeat' ((first | refine orR ?_ | (refine sp ?_ ?_ <;> intro hc) | refine cap_Good_spec (c := c) ?_ | refine right_Badge_spec ?_ | refine cap_badged_spec ?_) <;> try simp only [*, w182, go_sem])
 all_goals (refine tv h (by first | exact ⟨_, rfl⟩ | exact ⟨[], (List.append_nil _).symm⟩ | exact hx | exact hx.app _) ?_; first | (simp only [cStamp, Cap.cells, Cap.zero, AVal.plain, plains, *, bs, go_sem]; done) | (simp_all [cStamp, Cap.cells, Cap.zero, AVal.plain, plains]; done) | (simp_all [cStamp, Cap.cells, Cap.zero, AVal.plain, plains]; omega) | grind [cStamp, Cap.cells, Cap.zero, AVal.plain, plains])
theorem cap_Less_spec {a b : Cap} (h : K (.bool (cLess a b)) H) : ACalls Tryz.prog 67 [.agg a.cells, .agg b.cells] H K := by
 refine ACalls.tidy ?_
 unfold Cap.cells
 refine into ok67 ?_; (try simp only [c67, w67, go_sem]); repeat' ((first | refine orR ?_ | (refine sp ?_ ?_ <;> intro hc) | refine cap_None_spec (c := a) ?_ | refine right_Within_spec ?_) <;> try simp only [*, w67, go_sem])
 all_goals (refine tb h (by first | exact ⟨_, rfl⟩ | exact ⟨[], (List.append_nil _).symm⟩ | exact hx | exact hx.app _) ?_; first | (simp only [cLess, *, bs, go_sem]; done) | (simp_all [cLess]; done) | (simp_all [cLess]; omega) | grind [cLess])
section
variable {x0 x1 x2 x3 y0 y1 y2 y3 n : Int}
theorem geo_Good_x (h : K (.bool (gGood ⟨x0, x1, x2⟩)) H) : ACalls Tryz.prog 70 [.agg [.int .i64 x0, .int .i64 x1, .int .i64 x2]] H K := geo_Good_spec (g := ⟨x0, x1, x2⟩) h
theorem geo_Root_x (h : K (.int .i64 (gRoot ⟨x0, x1, x2⟩ n)) H) : ACalls Tryz.prog 129 [.agg [.int .i64 x0, .int .i64 x1, .int .i64 x2], .int .i64 n] H K := geo_Root_spec (g := ⟨x0, x1, x2⟩) h
theorem cap_None_x (h : K (.bool (cNone ⟨x0, x1, x2, x3⟩)) H) : ACalls Tryz.prog 59 [.agg [.int .i64 x0, .int .i64 x1, .int .i64 x2, .int .i64 x3]] H K := cap_None_spec (c := ⟨x0, x1, x2, x3⟩) h
theorem cap_Good_x (h : K (.bool (cGood ⟨x0, x1, x2, x3⟩)) H) : ACalls Tryz.prog 141 [.agg [.int .i64 x0, .int .i64 x1, .int .i64 x2, .int .i64 x3]] H K := cap_Good_spec (c := ⟨x0, x1, x2, x3⟩) h
theorem cap_Cut_x (h : K (.agg (cCut ⟨x0, x1, x2, x3⟩ n).cells) H) : ACalls Tryz.prog 181 [.agg [.int .i64 x0, .int .i64 x1, .int .i64 x2, .int .i64 x3], .int .i64 n] H K := cap_Cut_spec (c := ⟨x0, x1, x2, x3⟩) h
theorem cap_Stamp_x (h : K (.tup [.agg (cStamp ⟨x0, x1, x2, x3⟩ n).1.cells, .int .i64 (cStamp ⟨x0, x1, x2, x3⟩ n).2]) H) : ACalls Tryz.prog 182 [.agg [.int .i64 x0, .int .i64 x1, .int .i64 x2, .int .i64 x3], .int .i64 n] H K := cap_Stamp_spec (c := ⟨x0, x1, x2, x3⟩) h
theorem cap_Less_x (h : K (.bool (cLess ⟨x0, x1, x2, x3⟩ ⟨y0, y1, y2, y3⟩)) H) : ACalls Tryz.prog 67 [.agg [.int .i64 x0, .int .i64 x1, .int .i64 x2, .int .i64 x3], .agg [.int .i64 y0, .int .i64 y1, .int .i64 y2, .int .i64 y3]] H K := cap_Less_spec (a := ⟨x0, x1, x2, x3⟩) (b := ⟨y0, y1, y2, y3⟩) h
end
end
end Go.Proofs.YtlaipllgmddkiaaGreat.Ax
