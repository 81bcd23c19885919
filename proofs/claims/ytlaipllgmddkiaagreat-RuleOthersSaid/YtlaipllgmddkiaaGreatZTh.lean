/- Texts put behind one another: SThing, SForest. Conditions: none. -/
import Derived.Test.YtlaipllgmddkiaaGreatSBaseZ
import Derived.Test.YtlaipllgmddkiaaGreatSLoopZ
set_option linter.all false
namespace Go.Proofs.YtlaipllgmddkiaaGreat.Ax
open Go Go.Ax Go.Ax.M
section
variable {H : Heap} {K : AVal → Heap → Prop}
theorem thing_in_spec {n lo hi : Int} (h : K (.bool (inB n lo hi)) H) : ACalls Tryz.prog 211 [.int .i64 n, .int .i64 lo, .int .i64 hi] H K := by
 refine into ok211 ?_; (try simp only [c211, wpx_of k211_0.eq_1, go_sem]); repeat' ((first | refine orR ?_ | (refine sp ?_ ?_ <;> intro hc) | fail) <;> try simp only [*, wpx_of k211_0.eq_1, go_sem])
 all_goals (refine kb h ?_; first | (simp only [inB, *, bs, go_sem]; done) | (simp_all [inB]; done) | (simp_all [inB]; omega) | grind [inB])
theorem thing_own_spec {t : Thing} (h : K (.agg (tOwn t).cells) H) : ACalls Tryz.prog 210 [.agg t.cells] H K := by
 refine ACalls.tidy ?_
 unfold Thing.cells
 refine into ok210 ?_; (try simp only [c210, w210, go_sem]); repeat' ((first | refine orR ?_ | (refine sp ?_ ?_ <;> intro hc) | fail) <;> try simp only [*, w210, go_sem])
 all_goals (refine tv h (by first | exact ⟨_, rfl⟩ | exact ⟨[], (List.append_nil _).symm⟩ | exact hx | exact hx.app _) ?_; first | (simp only [tOwn, Thing.cells, Thing.zero, AVal.plain, plains, *, bs, go_sem]; done) | (simp_all [tOwn, Thing.cells, Thing.zero, AVal.plain, plains]; done) | (simp_all [tOwn, Thing.cells, Thing.zero, AVal.plain, plains]; omega) | grind [tOwn, Thing.cells, Thing.zero, AVal.plain, plains])
theorem thing_Good_spec {t : Thing} (h : K (.bool (tGood t)) H) : ACalls Tryz.prog 143 [.agg t.cells] H K := by
 have e : inB t.bits 1 4 = true → IntKind.wrap .i64 (96 - p2 t.bits) = 96 - p2 t.bits := fun h => w64 (by have := p2_bits h; omega) (by have := p2_bits h; omega)
 refine ACalls.tidy ?_
 have hsh := @shl_spec t.bits
 unfold Thing.cells
 refine into ok143 ?_; (try simp only [c143, w143, hsh, tEq_cells, go_sem]); repeat' ((first | refine orR ?_ | (refine sp ?_ ?_ <;> intro hc) | refine thing_own_spec (t := t) ?_ | refine thing_in_spec ?_) <;> try simp only [*, w143, hsh, tEq_cells, go_sem])
 all_goals (refine tb h (by first | exact ⟨_, rfl⟩ | exact ⟨[], (List.append_nil _).symm⟩ | exact hx | exact hx.app _) ?_; first | (simp only [tGood, *, bs, go_sem]; done) | (simp_all [tGood]; done) | (simp_all [tGood]; omega) | grind [tGood])
theorem thing_Cost_spec {k n : Int} (h : K (.tup [.int .i64 (tCost k n).1, .bool (tCost k n).2]) H) : ACalls Tryz.prog 177 [.int .i64 k, .int .i64 n] H K := by
 have hsh := @shl_spec n
 refine ACalls.tidy ?_
 refine into ok177 ?_; (try simp only [c177, w177, hsh, go_sem]); repeat' ((first | refine orR ?_ | (refine sp ?_ ?_ <;> intro hc) | refine thing_in_spec ?_) <;> try simp only [*, w177, hsh, go_sem])
 all_goals (refine tv h (by first | exact ⟨_, rfl⟩ | exact ⟨[], (List.append_nil _).symm⟩ | exact hx | exact hx.app _) ?_; first | (simp only [tCost, AVal.plain, plains, *, bs, go_sem]; done) | (simp_all [tCost, AVal.plain, plains]; done) | (simp_all [tCost, AVal.plain, plains]; omega) | grind [tCost, AVal.plain, plains])
section
variable {x0 x1 x2 x3 x4 x5 x6 : Int} {x7 : Bool} {x8 x9 x10 x11 x12 : Int}
theorem thing_Good_x (h : K (.bool (tGood ⟨x0, x1, x2, x3, x4, x5, x6, x7, x8, x9, x10, x11, x12⟩)) H) : ACalls Tryz.prog 143 [.agg [.int .i64 x0, .int .i64 x1, .int .i64 x2, .int .i64 x3, .int .i64 x4, .int .i64 x5, .int .i64 x6, .bool x7, .int .u64 x8, .int .u64 x9, .int .u64 x10, .int .u64 x11, .int .u64 x12]] H K := thing_Good_spec (t := ⟨x0, x1, x2, x3, x4, x5, x6, x7, x8, x9, x10, x11, x12⟩) h
end
theorem thing_New_spec {k n b : Int} (h : K (.tup [.agg (tNew k n b).1.cells, .bool (tNew k n b).2]) H) : ACalls Tryz.prog 128 [.int .i64 k, .int .i64 n, .int .i64 b] H K := by
 refine ACalls.tidy ?_
 refine into ok128 ?_; (try simp only [c128, w128, go_sem]); repeat' ((first | refine orR ?_ | (refine sp ?_ ?_ <;> intro hc) | refine thing_Good_x ?_) <;> try simp only [*, w128, go_sem])
 all_goals (refine tv h (by first | exact ⟨_, rfl⟩ | exact ⟨[], (List.append_nil _).symm⟩ | exact hx | exact hx.app _) ?_; first | (simp only [tNew, tOfKind, Thing.cells, Thing.zero, AVal.plain, plains, *, bs, go_sem]; done) | (simp_all [tNew, tOfKind, Thing.cells, Thing.zero, AVal.plain, plains]; done) | (simp_all [tNew, tOfKind, Thing.cells, Thing.zero, AVal.plain, plains]; omega) | grind [tNew, tOfKind, Thing.cells, Thing.zero, AVal.plain, plains])
end
end Go.Proofs.YtlaipllgmddkiaaGreat.Ax
namespace Go.Proofs.YtlaipllgmddkiaaGreat.Ax
open Go Go.Ax Go.Ax.M
section
variable {H : Heap} {K : AVal → Heap → Prop}
theorem forest_is_spec {up : List Int} {o : Nat} {fl ro : Bool} {i : Int} (ho : H[o]? = some (.arr 1 (ints up) ro)) (h : K (.bool (fIs up i)) H) : ACalls Tryz.prog 146 [.agg [.slice o up.length 0 up.length fl], .int .i64 i] H K := by
 have hf : ∀ L, (H ++ L)[o]? = some (.arr 1 (ints up) ro) := fun L => old_get ho
 have hg : 0 ≤ i → i < up.length → (ints up)[i.toNat]? = some [.int .i64 (up.getD i.toNat 0)] := fun h1 h2 => ints_get (by omega)
 refine ACalls.tidy ?_
 refine into ok146 ?_; (try simp only [c146, wpx_of k146_0.eq_1, hf, hg, go_sem]); repeat' ((first | refine orR ?_ | (refine sp ?_ ?_ <;> intro hc) | fail) <;> try simp only [*, wpx_of k146_0.eq_1, hf, hg, go_sem])
 all_goals (refine tb h (by first | exact ⟨_, rfl⟩ | exact ⟨[], (List.append_nil _).symm⟩ | exact hx | exact hx.app _) ?_; first | (simp only [fIs, *, bs, go_sem]; done) | (simp_all [fIs]; done) | (simp_all [fIs]; omega) | grind [fIs])
theorem forest_Good_spec {up : List Int} {o : Nat} {fl ro : Bool} (ho : H[o]? = some (.arr 1 (ints up) ro)) (h : K (.bool (fGood up)) H) : ACalls Tryz.prog 75 [.agg [.slice o up.length 0 up.length fl]] H K := by
 have hf : ∀ L, (H ++ L)[o]? = some (.arr 1 (ints up) ro) := fun L => old_get ho
 refine ACalls.tidy ?_
 refine into ok75 ?_; (try simp only [c75, w75, hf, go_sem]); repeat' ((first | refine orR ?_ | (refine sp ?_ ?_ <;> intro hc) | refine forest_is_spec (hf _) ?_) <;> try simp only [*, w75, hf, go_sem])
 ·all_goals (refine tb h (by first | exact ⟨_, rfl⟩ | exact ⟨[], (List.append_nil _).symm⟩ | exact hx | exact hx.app _) ?_; first | (simp only [fGood, *, bs, go_sem]; done) | (simp_all [fGood]; done) | (simp_all [fGood]; omega) | grind [fGood])
 ·have hlen : up.length ≤ 96 := by omega
  refine ALoop.keep [15, 1, 13, 14] ?_; simp only [mpC, go_sem]
  refine ALoop.cnt (fun k => (up.take k).all (fUp up) = true) up.length (by simp) fun k hk hI next => ?_
  refine ALoop.unfold ?_
  have hw := wrap_succ (k := k) (by omega)
  have hg : k < up.length → (ints up)[k]? = some [.int .i64 (up.getD k 0)] := fun h => ints_get h
  (try simp only [w75, hf, hg, wpx_of b75_4.eq_1, nlt_iff, n0_le, go_sem]); repeat' ((first | refine orR ?_ | (refine sp ?_ ?_ <;> intro hc) | refine forest_is_spec (hf _) ?_) <;> try simp only [*, w75, hf, hg, wpx_of b75_4.eq_1, nlt_iff, n0_le, go_sem])
  all_goals try ((refine ALoop.keep [15, 1, 13, 14] ?_; simp only [mpC, go_sem]; refine next (by assumption) ?_); rw [all_take_d (d := 0) (by assumption), hI]; simp_all [fUp]; done)
  ·refine tb h ⟨_, rfl⟩ ?_
   have : up.all (fUp up) = false := all_false (d := 0) (k := k) (by assumption) (by simp_all [fUp])
   simp [fGood, this]
  ·have hk : k = up.length := by omega
   subst hk
   simp only [List.take_length] at hI
   clear next hw hg
   refine ALoop.keep [35, 1, 34] ?_; simp only [mpC, go_sem]
   refine ALoop.cnt (fun k => ((List.range k).all fun i => fEnds up (up.length + 1) i) = true) up.length (by simp) fun k hk hI2 next => ?_
   refine ALoop.unfold ?_
   have hw := wrap_succ (k := k) (by omega)
   (try simp only [w75, hf, hw, wpx_of b75_11.eq_1, nlt_iff, n0_le, go_sem]); repeat' ((first | refine orR ?_ | (refine sp ?_ ?_ <;> intro hc) | refine forest_is_spec (hf _) ?_) <;> try simp only [*, w75, hf, hw, wpx_of b75_11.eq_1, nlt_iff, n0_le, go_sem])
   ·refine ALoop.keep [7, 6, 1, 34, 35] ?_; simp only [mpC, go_sem]
    refine ALoop.acc (fun s a => [(7, .int .i64 a), (6, .int .i64 (s : Int))]) (fun _ _ => _) (fun s a => s ≤ up.length + 1 ∧ fEnds up (up.length + 1 - s) a = fEnds up (up.length + 1) k) (up.length + 1) ?_ (a0 := (k : Int)) ⟨by omega, rfl⟩
    intro s a hs hI3 next2
    refine ALoop.unfold ?_
    have hws := wrap_succ (k := s) (by omega)
    have hg : fIs up a = true → (0 ≤ a) = True ∧ (a < (up.length : Int)) = True ∧ (ints up)[a.toNat]? = some [.int .i64 (up.getD a.toNat 0)] := by
     intro h; simp [fIs] at h; exact ⟨by simp [h], by simp [h], ints_get (by omega)⟩
    (try simp only [w75, hf, hw, hws, hg, wpx_of b75_8.eq_1, nlt_iff, n0_le, apC, go_sem]); repeat' ((first | refine orR ?_ | (refine sp ?_ ?_ <;> intro hc) | refine forest_is_spec (hf _) ?_) <;> try simp only [*, w75, hf, hw, hws, hg, wpx_of b75_8.eq_1, nlt_iff, n0_le, apC, go_sem])
    ·obtain ⟨hs1, hs2⟩ := hI3
     refine tb h ⟨_, rfl⟩ ?_
     have e : up.length + 1 - s = 0 := by omega
     rw [e] at hs2
     have : ((List.range up.length).all fun i => fEnds up (up.length + 1) i) = false := all_range_false (k := k) (by omega) (by rw [← hs2]; simp [fEnds, *])
     simp [fGood, this]
    ·obtain ⟨hs1, hs2⟩ := hI3
     (refine ALoop.keep [7, 6, 1, 34, 35] ?_; simp only [mpC, go_sem]; refine next2 _ (by omega) ⟨by omega, ?_⟩)
     rw [← hs2, show up.length + 1 - s = (up.length + 1 - (s + 1)) + 1 by omega]
     simp [fEnds, *]
    ·obtain ⟨hs1, hs2⟩ := hI3
     (refine ALoop.keep [35, 1, 34] ?_; simp only [mpC, go_sem]; refine next (by omega) ?_)
     rw [all_range (N := 0), hI2, ← hs2]
     cases e : up.length + 1 - s <;> simp [fEnds, *]
   ·refine tb h ⟨_, rfl⟩ ?_
    have hk : k = up.length := by omega
    subst hk
    simp [fGood, hI, hI2, hlen]
end
end Go.Proofs.YtlaipllgmddkiaaGreat.Ax
