/- The rights: what the functions of package right answer. Conditions: none. -/
import Derived.Test.YtcdihghokoinhaaAxTab
namespace Go.Proofs.Ytcdihghokoinhaa.Ax
open Go Go.Ax
set_option linter.unusedSimpArgs false
set_option linter.unusedVariables false

/-- The rights that a number stands for. -/
def ofR (r : Int) : Int := if 0 ≤ r ∧ r ≤ 7 then r else 0

theorem good_spec {r : Int} {H : Heap} {K : AVal → Heap → Prop} (h : K (.bool (decide (0 ≤ r ∧ r ≤ 7))) H) : ACalls Try.prog 17 [.int .i64 r] H K := by
  refine ACalls.enter ok17 ?_; simp only [c17, wpx_of k17_0.eq_1, wpx, xOps, xOp, xOne, aget, aStep, aBin, aShift, setDst, thenX, blockX, bodyX, aRes, aTuple, List.length_cons, List.length_nil, List.replicate, List.cons_append, List.nil_append, List.getD_cons_zero, List.getD_cons_succ, List.getElem?_cons_zero, List.getElem?_cons_succ, List.getElem?_nil, List.set_cons_zero, List.set_cons_succ, List.map_cons, List.map_nil, Nat.reduceAdd, Nat.reduceSub, Nat.reduceLT, Nat.reduceLeDiff, Option.map_some, Option.map_none, if_true, if_false, true_implies, false_implies, and_true, true_and, ne_eq, not_true_eq_false, not_false_eq_true, reduceCtorEq, reduceIte, Int.natCast_zero, Int.natCast_one, Int.cast_ofNat_Int]
  grind


theorem of_spec {r : Int} {H : Heap} {K : AVal → Heap → Prop} (h : K (.int .i64 (ofR r)) H) : ACalls Try.prog 73 [.int .i64 r] H K := by
  refine ACalls.enter ok73 ?_; simp only [c73, wpx_of k73_0.eq_1, wpx, xOps, xOp, xOne, aget, aStep, aBin, aShift, setDst, thenX, blockX, bodyX, aRes, aTuple, List.length_cons, List.length_nil, List.replicate, List.cons_append, List.nil_append, List.getD_cons_zero, List.getD_cons_succ, List.getElem?_cons_zero, List.getElem?_cons_succ, List.getElem?_nil, List.set_cons_zero, List.set_cons_succ, List.map_cons, List.map_nil, Nat.reduceAdd, Nat.reduceSub, Nat.reduceLT, Nat.reduceLeDiff, Option.map_some, Option.map_none, if_true, if_false, true_implies, false_implies, and_true, true_and, ne_eq, not_true_eq_false, not_false_eq_true, reduceCtorEq, reduceIte, Int.natCast_zero, Int.natCast_one, Int.cast_ofNat_Int]
  refine good_spec ?_
  try simp only [wpx, xOps, xOp, xOne, aget, aStep, aBin, aShift, setDst, thenX, blockX, bodyX, aRes, aTuple, List.length_cons, List.length_nil, List.replicate, List.cons_append, List.nil_append, List.getD_cons_zero, List.getD_cons_succ, List.getElem?_cons_zero, List.getElem?_cons_succ, List.getElem?_nil, List.set_cons_zero, List.set_cons_succ, List.map_cons, List.map_nil, Nat.reduceAdd, Nat.reduceSub, Nat.reduceLT, Nat.reduceLeDiff, Option.map_some, Option.map_none, if_true, if_false, true_implies, false_implies, and_true, true_and, ne_eq, not_true_eq_false, not_false_eq_true, reduceCtorEq, reduceIte, Int.natCast_zero, Int.natCast_one, Int.cast_ofNat_Int]
  unfold ofR at h
  grind


/-- The rights are eight. -/
theorem ofR_cases (r : Int) : ofR r = 0 ∨ ofR r = 1 ∨ ofR r = 2 ∨ ofR r = 3 ∨ ofR r = 4 ∨ ofR r = 5 ∨ ofR r = 6 ∨ ofR r = 7 := by unfold ofR; split <;> omega

/-- The text of rights. -/
def textR (o : Int) : List UInt8 :=
  if o = 0 then [45] else (if o % 2 = 1 then [114] else []) ++ ((if o / 2 % 2 = 1 then [119] else []) ++ (if o / 4 = 1 then [103] else []))

theorem dec0 : Utf8.decode ⟨[114, 119, 103].toArray⟩ 0 = (114, 1) := by decide
theorem dec1 : Utf8.decode ⟨[114, 119, 103].toArray⟩ 1 = (119, 1) := by decide
theorem dec2 : Utf8.decode ⟨[114, 119, 103].toArray⟩ 2 = (103, 1) := by decide

theorem text_none {r : Int} {K : AVal → Heap → Prop} (h : ofR r = 0) (hK : ∀ H, K (.str [45]) H) : ACalls Try.prog 18 [.int .i64 r] [] K := by
  have e0 : aShift .shr .i64 0 0 = some (.int .i64 0) := by rfl
  have e1 : aShift .shr .i64 0 1 = some (.int .i64 0) := by rfl
  have e2 : aShift .shr .i64 0 2 = some (.int .i64 0) := by rfl
  have e3 : aBin .and .i64 0 1 = some (.int .i64 0) := by rfl
  have e4 : aBin .eql .i64 0 1 = some (.bool false) := by rfl
  refine ACalls.enter ok18 ?_; simp only [c18, wpx_of k18_0.eq_1, wpx_of k18_1.eq_1, wpx_of k18_3.eq_1, wpx, xOps, xOp, xOne, aget, aStep, aBin, aShift, setDst, thenX, blockX, bodyX, aRes, aTuple, List.length_cons, List.length_nil, List.replicate, List.cons_append, List.nil_append, List.getD_cons_zero, List.getD_cons_succ, List.getElem?_cons_zero, List.getElem?_cons_succ, List.getElem?_nil, List.set_cons_zero, List.set_cons_succ, List.map_cons, List.map_nil, Nat.reduceAdd, Nat.reduceSub, Nat.reduceLT, Nat.reduceLeDiff, Option.map_some, Option.map_none, if_true, if_false, true_implies, false_implies, and_true, true_and, ne_eq, not_true_eq_false, not_false_eq_true, reduceCtorEq, reduceIte, Int.natCast_zero, Int.natCast_one, Int.cast_ofNat_Int]
  refine ALoop.unfold ?_
  simp only [wpx_of b18_2.eq_1, wpx_of k18_0.eq_1, wpx_of k18_1.eq_1, wpx_of k18_3.eq_1, dec0, wpx, xOps, xOp, xOne, aget, aStep, setDst, thenX, blockX, bodyX, aRes, aTuple, List.length_cons, List.length_nil, List.replicate, List.cons_append, List.nil_append, List.getD_cons_zero, List.getD_cons_succ, List.getElem?_cons_zero, List.getElem?_cons_succ, List.getElem?_nil, List.set_cons_zero, List.set_cons_succ, List.map_cons, List.map_nil, Nat.reduceAdd, Nat.reduceSub, Nat.reduceLT, Nat.reduceLeDiff, Option.map_some, Option.map_none, if_true, if_false, true_implies, false_implies, and_true, true_and, ne_eq, not_true_eq_false, not_false_eq_true, reduceCtorEq, reduceIte, Int.natCast_zero, Int.natCast_one, Int.cast_ofNat_Int]
  refine of_spec ?_
  rw [h]
  simp only [e0, e3, e4, wpx, xOps, xOp, xOne, aget, aStep, setDst, thenX, blockX, bodyX, aRes, aTuple, List.length_cons, List.length_nil, List.replicate, List.cons_append, List.nil_append, List.getD_cons_zero, List.getD_cons_succ, List.getElem?_cons_zero, List.getElem?_cons_succ, List.getElem?_nil, List.set_cons_zero, List.set_cons_succ, List.map_cons, List.map_nil, Nat.reduceAdd, Nat.reduceSub, Nat.reduceLT, Nat.reduceLeDiff, Option.map_some, Option.map_none, if_true, if_false, true_implies, false_implies, and_true, true_and, ne_eq, not_true_eq_false, not_false_eq_true, reduceCtorEq, reduceIte, Int.natCast_zero, Int.natCast_one, Int.cast_ofNat_Int]
  refine ALoop.unfold ?_
  simp only [wpx_of b18_2.eq_1, wpx_of k18_0.eq_1, wpx_of k18_1.eq_1, wpx_of k18_3.eq_1, dec1, wpx, xOps, xOp, xOne, aget, aStep, setDst, thenX, blockX, bodyX, aRes, aTuple, List.length_cons, List.length_nil, List.replicate, List.cons_append, List.nil_append, List.getD_cons_zero, List.getD_cons_succ, List.getElem?_cons_zero, List.getElem?_cons_succ, List.getElem?_nil, List.set_cons_zero, List.set_cons_succ, List.map_cons, List.map_nil, Nat.reduceAdd, Nat.reduceSub, Nat.reduceLT, Nat.reduceLeDiff, Option.map_some, Option.map_none, if_true, if_false, true_implies, false_implies, and_true, true_and, ne_eq, not_true_eq_false, not_false_eq_true, reduceCtorEq, reduceIte, Int.natCast_zero, Int.natCast_one, Int.cast_ofNat_Int]
  refine of_spec ?_
  rw [h]
  simp only [e1, e3, e4, wpx, xOps, xOp, xOne, aget, aStep, setDst, thenX, blockX, bodyX, aRes, aTuple, List.length_cons, List.length_nil, List.replicate, List.cons_append, List.nil_append, List.getD_cons_zero, List.getD_cons_succ, List.getElem?_cons_zero, List.getElem?_cons_succ, List.getElem?_nil, List.set_cons_zero, List.set_cons_succ, List.map_cons, List.map_nil, Nat.reduceAdd, Nat.reduceSub, Nat.reduceLT, Nat.reduceLeDiff, Option.map_some, Option.map_none, if_true, if_false, true_implies, false_implies, and_true, true_and, ne_eq, not_true_eq_false, not_false_eq_true, reduceCtorEq, reduceIte, Int.natCast_zero, Int.natCast_one, Int.cast_ofNat_Int]
  refine ALoop.unfold ?_
  simp only [wpx_of b18_2.eq_1, wpx_of k18_0.eq_1, wpx_of k18_1.eq_1, wpx_of k18_3.eq_1, dec2, wpx, xOps, xOp, xOne, aget, aStep, setDst, thenX, blockX, bodyX, aRes, aTuple, List.length_cons, List.length_nil, List.replicate, List.cons_append, List.nil_append, List.getD_cons_zero, List.getD_cons_succ, List.getElem?_cons_zero, List.getElem?_cons_succ, List.getElem?_nil, List.set_cons_zero, List.set_cons_succ, List.map_cons, List.map_nil, Nat.reduceAdd, Nat.reduceSub, Nat.reduceLT, Nat.reduceLeDiff, Option.map_some, Option.map_none, if_true, if_false, true_implies, false_implies, and_true, true_and, ne_eq, not_true_eq_false, not_false_eq_true, reduceCtorEq, reduceIte, Int.natCast_zero, Int.natCast_one, Int.cast_ofNat_Int]
  refine of_spec ?_
  rw [h]
  simp only [e2, e3, e4, wpx, xOps, xOp, xOne, aget, aStep, setDst, thenX, blockX, bodyX, aRes, aTuple, List.length_cons, List.length_nil, List.replicate, List.cons_append, List.nil_append, List.getD_cons_zero, List.getD_cons_succ, List.getElem?_cons_zero, List.getElem?_cons_succ, List.getElem?_nil, List.set_cons_zero, List.set_cons_succ, List.map_cons, List.map_nil, Nat.reduceAdd, Nat.reduceSub, Nat.reduceLT, Nat.reduceLeDiff, Option.map_some, Option.map_none, if_true, if_false, true_implies, false_implies, and_true, true_and, ne_eq, not_true_eq_false, not_false_eq_true, reduceCtorEq, reduceIte, Int.natCast_zero, Int.natCast_one, Int.cast_ofNat_Int]
  refine ALoop.unfold ?_
  simp only [wpx_of b18_2.eq_1, wpx_of k18_0.eq_1, wpx_of k18_1.eq_1, wpx_of k18_3.eq_1, dec2, wpx, xOps, xOp, xOne, aget, aStep, setDst, thenX, blockX, bodyX, aRes, aTuple, List.length_cons, List.length_nil, List.replicate, List.cons_append, List.nil_append, List.getD_cons_zero, List.getD_cons_succ, List.getElem?_cons_zero, List.getElem?_cons_succ, List.getElem?_nil, List.set_cons_zero, List.set_cons_succ, List.map_cons, List.map_nil, Nat.reduceAdd, Nat.reduceSub, Nat.reduceLT, Nat.reduceLeDiff, Option.map_some, Option.map_none, if_true, if_false, true_implies, false_implies, and_true, true_and, ne_eq, not_true_eq_false, not_false_eq_true, reduceCtorEq, reduceIte, Int.natCast_zero, Int.natCast_one, Int.cast_ofNat_Int]
  simp only [decide_true, if_true, wpx, xOps, xOp, xOne, aget, aStep, setDst, thenX, blockX, bodyX, aRes, aTuple, List.length_cons, List.length_nil, List.replicate, List.cons_append, List.nil_append, List.getD_cons_zero, List.getD_cons_succ, List.getElem?_cons_zero, List.getElem?_cons_succ, List.getElem?_nil, List.set_cons_zero, List.set_cons_succ, List.map_cons, List.map_nil, Nat.reduceAdd, Nat.reduceSub, Nat.reduceLT, Nat.reduceLeDiff, Option.map_some, Option.map_none, if_true, if_false, true_implies, false_implies, and_true, true_and, ne_eq, not_true_eq_false, not_false_eq_true, reduceCtorEq, reduceIte, Int.natCast_zero, Int.natCast_one, Int.cast_ofNat_Int]
  exact hK _

theorem text_spec {r : Int} {H : Heap} {K : AVal → Heap → Prop} (h : K (.str (textR (ofR r))) H) : ACalls Try.prog 18 [.int .i64 r] H K := by
  by_cases g : 0 ≤ r ∧ r ≤ 7
  · have : r = 0 ∨ r = 1 ∨ r = 2 ∨ r = 3 ∨ r = 4 ∨ r = 5 ∨ r = 6 ∨ r = 7 := by omega
    rcases this with rfl | rfl | rfl | rfl | rfl | rfl | rfl | rfl <;> exact run_known (loops := 5) (k := 5) tabOk (by kernel_rfl) rfl rfl h
  · have e : ofR r = 0 := by unfold ofR; rw [if_neg g]
    rw [e] at h
    exact ACalls.flat rfl (R := fun v => v = .str [45]) (text_none e (fun H => ⟨rfl, rfl⟩)) (fun v hv => hv ▸ h)

/-- What both have; what one has more. -/
def bothR (a b : Int) : Int := IntKind.wrap .i64 ((BitVec.ofInt (IntKind.bits .i64) (ofR a) &&& BitVec.ofInt (IntKind.bits .i64) (ofR b)).toNat)
def lessR (a b : Int) : Int := IntKind.wrap .i64 ((BitVec.ofInt (IntKind.bits .i64) (ofR a) &&& ~~~ BitVec.ofInt (IntKind.bits .i64) (ofR b)).toNat)

theorem less_spec {a b : Int} {H : Heap} {K : AVal → Heap → Prop} (h : K (.int .i64 (lessR a b)) H) : ACalls Try.prog 19 [.int .i64 a, .int .i64 b] H K := by
  refine ACalls.enter ok19 ?_; simp only [c19, wpx_of k19_0.eq_1, wpx, xOps, xOp, xOne, aget, aStep, aBin, aShift, setDst, thenX, blockX, bodyX, aRes, aTuple, List.length_cons, List.length_nil, List.replicate, List.cons_append, List.nil_append, List.getD_cons_zero, List.getD_cons_succ, List.getElem?_cons_zero, List.getElem?_cons_succ, List.getElem?_nil, List.set_cons_zero, List.set_cons_succ, List.map_cons, List.map_nil, Nat.reduceAdd, Nat.reduceSub, Nat.reduceLT, Nat.reduceLeDiff, Option.map_some, Option.map_none, if_true, if_false, true_implies, false_implies, and_true, true_and, ne_eq, not_true_eq_false, not_false_eq_true, reduceCtorEq, reduceIte, Int.natCast_zero, Int.natCast_one, Int.cast_ofNat_Int]
  refine of_spec ?_
  try simp only [wpx, xOps, xOp, xOne, aget, aStep, aBin, aShift, setDst, thenX, blockX, bodyX, aRes, aTuple, List.length_cons, List.length_nil, List.replicate, List.cons_append, List.nil_append, List.getD_cons_zero, List.getD_cons_succ, List.getElem?_cons_zero, List.getElem?_cons_succ, List.getElem?_nil, List.set_cons_zero, List.set_cons_succ, List.map_cons, List.map_nil, Nat.reduceAdd, Nat.reduceSub, Nat.reduceLT, Nat.reduceLeDiff, Option.map_some, Option.map_none, if_true, if_false, true_implies, false_implies, and_true, true_and, ne_eq, not_true_eq_false, not_false_eq_true, reduceCtorEq, reduceIte, Int.natCast_zero, Int.natCast_one, Int.cast_ofNat_Int]
  refine of_spec ?_
  try simp only [wpx, xOps, xOp, xOne, aget, aStep, aBin, aShift, setDst, thenX, blockX, bodyX, aRes, aTuple, List.length_cons, List.length_nil, List.replicate, List.cons_append, List.nil_append, List.getD_cons_zero, List.getD_cons_succ, List.getElem?_cons_zero, List.getElem?_cons_succ, List.getElem?_nil, List.set_cons_zero, List.set_cons_succ, List.map_cons, List.map_nil, Nat.reduceAdd, Nat.reduceSub, Nat.reduceLT, Nat.reduceLeDiff, Option.map_some, Option.map_none, if_true, if_false, true_implies, false_implies, and_true, true_and, ne_eq, not_true_eq_false, not_false_eq_true, reduceCtorEq, reduceIte, Int.natCast_zero, Int.natCast_one, Int.cast_ofNat_Int]
  exact h

theorem both_spec {a b : Int} {H : Heap} {K : AVal → Heap → Prop} (h : K (.int .i64 (bothR a b)) H) : ACalls Try.prog 20 [.int .i64 a, .int .i64 b] H K := by
  refine ACalls.enter ok20 ?_; simp only [c20, wpx_of k20_0.eq_1, wpx, xOps, xOp, xOne, aget, aStep, aBin, aShift, setDst, thenX, blockX, bodyX, aRes, aTuple, List.length_cons, List.length_nil, List.replicate, List.cons_append, List.nil_append, List.getD_cons_zero, List.getD_cons_succ, List.getElem?_cons_zero, List.getElem?_cons_succ, List.getElem?_nil, List.set_cons_zero, List.set_cons_succ, List.map_cons, List.map_nil, Nat.reduceAdd, Nat.reduceSub, Nat.reduceLT, Nat.reduceLeDiff, Option.map_some, Option.map_none, if_true, if_false, true_implies, false_implies, and_true, true_and, ne_eq, not_true_eq_false, not_false_eq_true, reduceCtorEq, reduceIte, Int.natCast_zero, Int.natCast_one, Int.cast_ofNat_Int]
  refine of_spec ?_
  try simp only [wpx, xOps, xOp, xOne, aget, aStep, aBin, aShift, setDst, thenX, blockX, bodyX, aRes, aTuple, List.length_cons, List.length_nil, List.replicate, List.cons_append, List.nil_append, List.getD_cons_zero, List.getD_cons_succ, List.getElem?_cons_zero, List.getElem?_cons_succ, List.getElem?_nil, List.set_cons_zero, List.set_cons_succ, List.map_cons, List.map_nil, Nat.reduceAdd, Nat.reduceSub, Nat.reduceLT, Nat.reduceLeDiff, Option.map_some, Option.map_none, if_true, if_false, true_implies, false_implies, and_true, true_and, ne_eq, not_true_eq_false, not_false_eq_true, reduceCtorEq, reduceIte, Int.natCast_zero, Int.natCast_one, Int.cast_ofNat_Int]
  refine of_spec ?_
  try simp only [wpx, xOps, xOp, xOne, aget, aStep, aBin, aShift, setDst, thenX, blockX, bodyX, aRes, aTuple, List.length_cons, List.length_nil, List.replicate, List.cons_append, List.nil_append, List.getD_cons_zero, List.getD_cons_succ, List.getElem?_cons_zero, List.getElem?_cons_succ, List.getElem?_nil, List.set_cons_zero, List.set_cons_succ, List.map_cons, List.map_nil, Nat.reduceAdd, Nat.reduceSub, Nat.reduceLT, Nat.reduceLeDiff, Option.map_some, Option.map_none, if_true, if_false, true_implies, false_implies, and_true, true_and, ne_eq, not_true_eq_false, not_false_eq_true, reduceCtorEq, reduceIte, Int.natCast_zero, Int.natCast_one, Int.cast_ofNat_Int]
  exact h

theorem within_spec {a b : Int} {H : Heap} {K : AVal → Heap → Prop} (h : K (.bool (decide (lessR a b = 0))) H) : ACalls Try.prog 35 [.int .i64 a, .int .i64 b] H K := by
  refine ACalls.enter ok35 ?_; simp only [c35, wpx, xOps, xOp, xOne, aget, aStep, aBin, aShift, setDst, thenX, blockX, bodyX, aRes, aTuple, List.length_cons, List.length_nil, List.replicate, List.cons_append, List.nil_append, List.getD_cons_zero, List.getD_cons_succ, List.getElem?_cons_zero, List.getElem?_cons_succ, List.getElem?_nil, List.set_cons_zero, List.set_cons_succ, List.map_cons, List.map_nil, Nat.reduceAdd, Nat.reduceSub, Nat.reduceLT, Nat.reduceLeDiff, Option.map_some, Option.map_none, if_true, if_false, true_implies, false_implies, and_true, true_and, ne_eq, not_true_eq_false, not_false_eq_true, reduceCtorEq, reduceIte, Int.natCast_zero, Int.natCast_one, Int.cast_ofNat_Int]
  refine less_spec ?_
  try simp only [wpx, xOps, xOp, xOne, aget, aStep, aBin, aShift, setDst, thenX, blockX, bodyX, aRes, aTuple, List.length_cons, List.length_nil, List.replicate, List.cons_append, List.nil_append, List.getD_cons_zero, List.getD_cons_succ, List.getElem?_cons_zero, List.getElem?_cons_succ, List.getElem?_nil, List.set_cons_zero, List.set_cons_succ, List.map_cons, List.map_nil, Nat.reduceAdd, Nat.reduceSub, Nat.reduceLT, Nat.reduceLeDiff, Option.map_some, Option.map_none, if_true, if_false, true_implies, false_implies, and_true, true_and, ne_eq, not_true_eq_false, not_false_eq_true, reduceCtorEq, reduceIte, Int.natCast_zero, Int.natCast_one, Int.cast_ofNat_Int]
  exact h

theorem badge_spec {r : Int} {H : Heap} {K : AVal → Heap → Prop} (h : K (.bool (decide (0 ≤ r ∧ r ≤ 65535))) H) : ACalls Try.prog 37 [.int .i64 r] H K := by
  refine ACalls.enter ok37 ?_; simp only [c37, wpx_of k37_0.eq_1, wpx, xOps, xOp, xOne, aget, aStep, aBin, aShift, setDst, thenX, blockX, bodyX, aRes, aTuple, List.length_cons, List.length_nil, List.replicate, List.cons_append, List.nil_append, List.getD_cons_zero, List.getD_cons_succ, List.getElem?_cons_zero, List.getElem?_cons_succ, List.getElem?_nil, List.set_cons_zero, List.set_cons_succ, List.map_cons, List.map_nil, Nat.reduceAdd, Nat.reduceSub, Nat.reduceLT, Nat.reduceLeDiff, Option.map_some, Option.map_none, if_true, if_false, true_implies, false_implies, and_true, true_and, ne_eq, not_true_eq_false, not_false_eq_true, reduceCtorEq, reduceIte, Int.natCast_zero, Int.natCast_one, Int.cast_ofNat_Int]
  grind

theorem held_spec {r : Int} {H : Heap} {K : AVal → Heap → Prop} (h : K (.int .i64 (ofR r)) H) : ACalls Try.prog 75 [.int .i64 r] H K := by
  refine ACalls.enter ok75 ?_; simp only [c75, wpx_of k75_0.eq_1, wpx, xOps, xOp, xOne, aget, aStep, aBin, aShift, setDst, thenX, blockX, bodyX, aRes, aTuple, List.length_cons, List.length_nil, List.replicate, List.cons_append, List.nil_append, List.getD_cons_zero, List.getD_cons_succ, List.getElem?_cons_zero, List.getElem?_cons_succ, List.getElem?_nil, List.set_cons_zero, List.set_cons_succ, List.map_cons, List.map_nil, Nat.reduceAdd, Nat.reduceSub, Nat.reduceLT, Nat.reduceLeDiff, Option.map_some, Option.map_none, if_true, if_false, true_implies, false_implies, and_true, true_and, ne_eq, not_true_eq_false, not_false_eq_true, reduceCtorEq, reduceIte, Int.natCast_zero, Int.natCast_one, Int.cast_ofNat_Int]
  unfold ofR at h
  grind

theorem refBoth_spec {a b : Int} {H : Heap} {K : AVal → Heap → Prop} (h : K (.int .i64 (bothR a b)) H) : ACalls Try.prog 40 [.int .i64 a, .int .i64 b] H K := by
  refine ACalls.flat rfl (R := fun v => v = .int .i64 (bothR a b)) ?_ (fun v hv => hv ▸ h)
  refine ACalls.enter ok40 ?_; simp only [c40, wpx, xOps, xOp, xOne, aget, aStep, aBin, aShift, setDst, thenX, blockX, bodyX, aRes, aTuple, List.length_cons, List.length_nil, List.replicate, List.cons_append, List.nil_append, List.getD_cons_zero, List.getD_cons_succ, List.getElem?_cons_zero, List.getElem?_cons_succ, List.getElem?_nil, List.set_cons_zero, List.set_cons_succ, List.map_cons, List.map_nil, Nat.reduceAdd, Nat.reduceSub, Nat.reduceLT, Nat.reduceLeDiff, Option.map_some, Option.map_none, if_true, if_false, true_implies, false_implies, and_true, true_and, ne_eq, not_true_eq_false, not_false_eq_true, reduceCtorEq, reduceIte, Int.natCast_zero, Int.natCast_one, Int.cast_ofNat_Int]
  refine held_spec ?_
  try simp only [wpx, xOps, xOp, xOne, aget, aStep, aBin, aShift, setDst, thenX, blockX, bodyX, aRes, aTuple, List.length_cons, List.length_nil, List.replicate, List.cons_append, List.nil_append, List.getD_cons_zero, List.getD_cons_succ, List.getElem?_cons_zero, List.getElem?_cons_succ, List.getElem?_nil, List.set_cons_zero, List.set_cons_succ, List.map_cons, List.map_nil, Nat.reduceAdd, Nat.reduceSub, Nat.reduceLT, Nat.reduceLeDiff, Option.map_some, Option.map_none, if_true, if_false, true_implies, false_implies, and_true, true_and, ne_eq, not_true_eq_false, not_false_eq_true, reduceCtorEq, reduceIte, Int.natCast_zero, Int.natCast_one, Int.cast_ofNat_Int]
  refine held_spec ?_
  try simp only [wpx, xOps, xOp, xOne, aget, aStep, aBin, aShift, setDst, thenX, blockX, bodyX, aRes, aTuple, List.length_cons, List.length_nil, List.replicate, List.cons_append, List.nil_append, List.getD_cons_zero, List.getD_cons_succ, List.getElem?_cons_zero, List.getElem?_cons_succ, List.getElem?_nil, List.set_cons_zero, List.set_cons_succ, List.map_cons, List.map_nil, Nat.reduceAdd, Nat.reduceSub, Nat.reduceLT, Nat.reduceLeDiff, Option.map_some, Option.map_none, if_true, if_false, true_implies, false_implies, and_true, true_and, ne_eq, not_true_eq_false, not_false_eq_true, reduceCtorEq, reduceIte, Int.natCast_zero, Int.natCast_one, Int.cast_ofNat_Int]
  unfold bothR
  rcases ofR_cases a with e | e | e | e | e | e | e | e <;> rcases ofR_cases b with f | f | f | f | f | f | f | f <;> rw [e, f] <;>
    (refine wpx_run (loops := 5) (k := 5) tabOk ?_ (fun _ => ⟨?_, rfl⟩) <;> kernel_rfl)

end Go.Proofs.Ytcdihghokoinhaa.Ax
