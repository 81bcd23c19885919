/- The rights, as the document's own functions tell them; and their texts read again. Conditions: none. -/
import Derived.Test.YtcdihghokoinhaaRightA
import Derived.IntWalk
namespace Go.Proofs.Ytcdihghokoinhaa.Ax
open Go Go.Ax
set_option linter.unusedSimpArgs false
set_option linter.unusedVariables false

theorem lessR_eq (a b : Int) : IntKind.wrap .i64 (ofR a - bothR a b) = lessR a b := by
  unfold bothR lessR
  rcases ofR_cases a with e | e | e | e | e | e | e | e <;> rcases ofR_cases b with f | f | f | f | f | f | f | f <;> rw [e, f] <;> decide

theorem refLess_spec {a b : Int} {H : Heap} {K : AVal → Heap → Prop} (h : K (.int .i64 (lessR a b)) H) : ACalls Try.prog 41 [.int .i64 a, .int .i64 b] H K := by
  refine ACalls.enter ok41 ?_; simp only [c41, wpx_of k41_0.eq_1, wpx, xOps, xOp, xOne, aget, aStep, aBin, aShift, setDst, thenX, blockX, bodyX, aRes, aTuple, List.length_cons, List.length_nil, List.replicate, List.cons_append, List.nil_append, List.getD_cons_zero, List.getD_cons_succ, List.getElem?_cons_zero, List.getElem?_cons_succ, List.getElem?_nil, List.set_cons_zero, List.set_cons_succ, List.map_cons, List.map_nil, Nat.reduceAdd, Nat.reduceSub, Nat.reduceLT, Nat.reduceLeDiff, Option.map_some, Option.map_none, if_true, if_false, true_implies, false_implies, and_true, true_and, ne_eq, not_true_eq_false, not_false_eq_true, reduceCtorEq, reduceIte, Int.natCast_zero, Int.natCast_one, Int.cast_ofNat_Int]
  refine held_spec ?_
  try simp only [wpx, xOps, xOp, xOne, aget, aStep, aBin, aShift, setDst, thenX, blockX, bodyX, aRes, aTuple, List.length_cons, List.length_nil, List.replicate, List.cons_append, List.nil_append, List.getD_cons_zero, List.getD_cons_succ, List.getElem?_cons_zero, List.getElem?_cons_succ, List.getElem?_nil, List.set_cons_zero, List.set_cons_succ, List.map_cons, List.map_nil, Nat.reduceAdd, Nat.reduceSub, Nat.reduceLT, Nat.reduceLeDiff, Option.map_some, Option.map_none, if_true, if_false, true_implies, false_implies, and_true, true_and, ne_eq, not_true_eq_false, not_false_eq_true, reduceCtorEq, reduceIte, Int.natCast_zero, Int.natCast_one, Int.cast_ofNat_Int]
  refine refBoth_spec ?_
  try simp only [wpx, xOps, xOp, xOne, aget, aStep, aBin, aShift, setDst, thenX, blockX, bodyX, aRes, aTuple, List.length_cons, List.length_nil, List.replicate, List.cons_append, List.nil_append, List.getD_cons_zero, List.getD_cons_succ, List.getElem?_cons_zero, List.getElem?_cons_succ, List.getElem?_nil, List.set_cons_zero, List.set_cons_succ, List.map_cons, List.map_nil, Nat.reduceAdd, Nat.reduceSub, Nat.reduceLT, Nat.reduceLeDiff, Option.map_some, Option.map_none, if_true, if_false, true_implies, false_implies, and_true, true_and, ne_eq, not_true_eq_false, not_false_eq_true, reduceCtorEq, reduceIte, Int.natCast_zero, Int.natCast_one, Int.cast_ofNat_Int]
  rw [lessR_eq]
  exact h

theorem refWithin_spec {a b : Int} {H : Heap} {K : AVal → Heap → Prop} (h : K (.bool (decide (lessR a b = 0))) H) : ACalls Try.prog 39 [.int .i64 a, .int .i64 b] H K := by
  refine ACalls.enter ok39 ?_; simp only [c39, wpx, xOps, xOp, xOne, aget, aStep, aBin, aShift, setDst, thenX, blockX, bodyX, aRes, aTuple, List.length_cons, List.length_nil, List.replicate, List.cons_append, List.nil_append, List.getD_cons_zero, List.getD_cons_succ, List.getElem?_cons_zero, List.getElem?_cons_succ, List.getElem?_nil, List.set_cons_zero, List.set_cons_succ, List.map_cons, List.map_nil, Nat.reduceAdd, Nat.reduceSub, Nat.reduceLT, Nat.reduceLeDiff, Option.map_some, Option.map_none, if_true, if_false, true_implies, false_implies, and_true, true_and, ne_eq, not_true_eq_false, not_false_eq_true, reduceCtorEq, reduceIte, Int.natCast_zero, Int.natCast_one, Int.cast_ofNat_Int]
  refine refLess_spec ?_
  try simp only [wpx, xOps, xOp, xOne, aget, aStep, aBin, aShift, setDst, thenX, blockX, bodyX, aRes, aTuple, List.length_cons, List.length_nil, List.replicate, List.cons_append, List.nil_append, List.getD_cons_zero, List.getD_cons_succ, List.getElem?_cons_zero, List.getElem?_cons_succ, List.getElem?_nil, List.set_cons_zero, List.set_cons_succ, List.map_cons, List.map_nil, Nat.reduceAdd, Nat.reduceSub, Nat.reduceLT, Nat.reduceLeDiff, Option.map_some, Option.map_none, if_true, if_false, true_implies, false_implies, and_true, true_and, ne_eq, not_true_eq_false, not_false_eq_true, reduceCtorEq, reduceIte, Int.natCast_zero, Int.natCast_one, Int.cast_ofNat_Int]
  exact h

theorem refText_spec {r : Int} {H : Heap} {K : AVal → Heap → Prop} (h : K (.str (textR (ofR r))) H) : ACalls Try.prog 42 [.int .i64 r] H K := by
  refine ACalls.flat rfl (R := fun v => v = .str (textR (ofR r))) ?_ (fun v hv => hv ▸ h)
  refine ACalls.enter ok42 ?_; simp only [c42, wpx, xOps, xOp, xOne, aget, aStep, aBin, aShift, setDst, thenX, blockX, bodyX, aRes, aTuple, List.length_cons, List.length_nil, List.replicate, List.cons_append, List.nil_append, List.getD_cons_zero, List.getD_cons_succ, List.getElem?_cons_zero, List.getElem?_cons_succ, List.getElem?_nil, List.set_cons_zero, List.set_cons_succ, List.map_cons, List.map_nil, Nat.reduceAdd, Nat.reduceSub, Nat.reduceLT, Nat.reduceLeDiff, Option.map_some, Option.map_none, if_true, if_false, true_implies, false_implies, and_true, true_and, ne_eq, not_true_eq_false, not_false_eq_true, reduceCtorEq, reduceIte, Int.natCast_zero, Int.natCast_one, Int.cast_ofNat_Int]
  refine held_spec ?_
  try simp only [wpx, xOps, xOp, xOne, aget, aStep, aBin, aShift, setDst, thenX, blockX, bodyX, aRes, aTuple, List.length_cons, List.length_nil, List.replicate, List.cons_append, List.nil_append, List.getD_cons_zero, List.getD_cons_succ, List.getElem?_cons_zero, List.getElem?_cons_succ, List.getElem?_nil, List.set_cons_zero, List.set_cons_succ, List.map_cons, List.map_nil, Nat.reduceAdd, Nat.reduceSub, Nat.reduceLT, Nat.reduceLeDiff, Option.map_some, Option.map_none, if_true, if_false, true_implies, false_implies, and_true, true_and, ne_eq, not_true_eq_false, not_false_eq_true, reduceCtorEq, reduceIte, Int.natCast_zero, Int.natCast_one, Int.cast_ofNat_Int]
  rcases ofR_cases r with e | e | e | e | e | e | e | e <;> rw [e] <;> (refine wpx_run (loops := 5) (k := 5) tabOk ?_ (fun _ => ⟨?_, rfl⟩) <;> kernel_rfl)

theorem wrap64 {n : Int} (h : -9223372036854775808 ≤ n) (h' : n ≤ 9223372036854775807) : IntKind.wrap .i64 n = n := Go.IntWalk.i64_in n ⟨h, h'⟩

/-- The right that a text is of, looked for from i on. -/
def findR (s : List UInt8) : Nat → Nat → Int × Bool
  | 0, _ => (0, false)
  | n + 1, i => if textR (ofR i) = s then ((i : Int), true) else findR s n (i + 1)

def parseR (s : List UInt8) : Int × Bool := findR s 8 0

theorem loop38 {s : List UInt8} {H : Heap} {n0 : Nat} {Q : Exit → St → Prop} : ∀ (n i : Nat), n + i = 8 →
    (∀ (r : Int) t, findR s n i = (r, true) → t.length = 10 → Q .ret ⟨.str s :: .top :: .int .i64 r :: .bool true :: t, H⟩) → (findR s n i = (0, false) → ∀ t, t.length = 10 → Q (.exit 0) ⟨.str s :: .top :: .int .i64 0 :: .bool false :: t, H⟩) →
    ALoop Try.prog n0 b38_1 Q ⟨[.str s, .top, .int .i64 0, .bool false, .int .i64 i, .top, .top, .top, .top, .top, .top, .top, .top, .top], H⟩
  | 0, i, hi, h1, h2 => by
    obtain rfl : i = 8 := by omega
    refine ALoop.unfold ?_
    simp only [wpx_of b38_1.eq_1, wpx_of k38_0.eq_1, wpx, xOps, xOp, xOne, aget, aStep, aBin, aShift, setDst, thenX, blockX, bodyX, aRes, aTuple, List.length_cons, List.length_nil, List.replicate, List.cons_append, List.nil_append, List.getD_cons_zero, List.getD_cons_succ, List.getElem?_cons_zero, List.getElem?_cons_succ, List.getElem?_nil, List.set_cons_zero, List.set_cons_succ, List.map_cons, List.map_nil, Nat.reduceAdd, Nat.reduceSub, Nat.reduceLT, Nat.reduceLeDiff, Option.map_some, Option.map_none, if_true, if_false, true_implies, false_implies, and_true, true_and, ne_eq, not_true_eq_false, not_false_eq_true, reduceCtorEq, reduceIte, Int.natCast_zero, Int.natCast_one, Int.cast_ofNat_Int]
    exact ⟨fun h => by simp at h, fun _ => h2 rfl _ rfl⟩
  | n + 1, i, hi, h1, h2 => by
    have hl : i < 8 := by omega
    refine ALoop.unfold ?_
    simp only [wpx_of b38_1.eq_1, wpx_of k38_0.eq_1, wpx, xOps, xOp, xOne, aget, aStep, aBin, aShift, setDst, thenX, blockX, bodyX, aRes, aTuple, List.length_cons, List.length_nil, List.replicate, List.cons_append, List.nil_append, List.getD_cons_zero, List.getD_cons_succ, List.getElem?_cons_zero, List.getElem?_cons_succ, List.getElem?_nil, List.set_cons_zero, List.set_cons_succ, List.map_cons, List.map_nil, Nat.reduceAdd, Nat.reduceSub, Nat.reduceLT, Nat.reduceLeDiff, Option.map_some, Option.map_none, if_true, if_false, true_implies, false_implies, and_true, true_and, ne_eq, not_true_eq_false, not_false_eq_true, reduceCtorEq, reduceIte, Int.natCast_zero, Int.natCast_one, Int.cast_ofNat_Int]
    refine ⟨fun _ => refText_spec ?_, fun h => absurd h (by simp; omega)⟩
    simp only [wpx, xOps, xOp, xOne, aget, aStep, aBin, aShift, setDst, thenX, blockX, bodyX, aRes, aTuple, List.length_cons, List.length_nil, List.replicate, List.cons_append, List.nil_append, List.getD_cons_zero, List.getD_cons_succ, List.getElem?_cons_zero, List.getElem?_cons_succ, List.getElem?_nil, List.set_cons_zero, List.set_cons_succ, List.map_cons, List.map_nil, Nat.reduceAdd, Nat.reduceSub, Nat.reduceLT, Nat.reduceLeDiff, Option.map_some, Option.map_none, if_true, if_false, true_implies, false_implies, and_true, true_and, ne_eq, not_true_eq_false, not_false_eq_true, reduceCtorEq, reduceIte, Int.natCast_zero, Int.natCast_one, Int.cast_ofNat_Int]
    refine ⟨fun h => h1 _ _ ?_ rfl, fun h => ?_⟩
    · simp only [decide_eq_true_eq] at h
      simp [findR, h]
    · simp only [decide_eq_false_iff_not] at h
      have e : findR s (n + 1) i = findR s n (i + 1) := by simp [findR, h]
      rw [e] at h1 h2
      have hw : IntKind.wrap .i64 ((i : Int) + 1) = ((i + 1 : Nat) : Int) := by rw [wrap64 (by omega) (by omega)]; omega
      rw [hw]
      exact ALoop.weaken (by simp [weaker]) (loop38 n (i + 1) (by omega) h1 h2)

theorem refParse_spec {s : List UInt8} {H : Heap} {K : AVal → Heap → Prop} (h : K (.tup [.int .i64 (parseR s).1, .bool (parseR s).2]) H) : ACalls Try.prog 38 [.str s] H K := by
  refine ACalls.enter ok38 ?_; simp only [c38, wpx_of k38_0.eq_1, wpx, xOps, xOp, xOne, aget, aStep, aBin, aShift, setDst, thenX, blockX, bodyX, aRes, aTuple, List.length_cons, List.length_nil, List.replicate, List.cons_append, List.nil_append, List.getD_cons_zero, List.getD_cons_succ, List.getElem?_cons_zero, List.getElem?_cons_succ, List.getElem?_nil, List.set_cons_zero, List.set_cons_succ, List.map_cons, List.map_nil, Nat.reduceAdd, Nat.reduceSub, Nat.reduceLT, Nat.reduceLeDiff, Option.map_some, Option.map_none, if_true, if_false, true_implies, false_implies, and_true, true_and, ne_eq, not_true_eq_false, not_false_eq_true, reduceCtorEq, reduceIte, Int.natCast_zero, Int.natCast_one, Int.cast_ofNat_Int]
  refine loop38 8 0 rfl (fun r t e _ => ?_) (fun e t _ => ?_)
  · simp only [parseR, e] at h
    simp only [wpx, xOps, xOp, xOne, aget, aStep, aBin, aShift, setDst, thenX, blockX, bodyX, aRes, aTuple, List.length_cons, List.length_nil, List.replicate, List.cons_append, List.nil_append, List.getD_cons_zero, List.getD_cons_succ, List.getElem?_cons_zero, List.getElem?_cons_succ, List.getElem?_nil, List.set_cons_zero, List.set_cons_succ, List.map_cons, List.map_nil, Nat.reduceAdd, Nat.reduceSub, Nat.reduceLT, Nat.reduceLeDiff, Option.map_some, Option.map_none, if_true, if_false, true_implies, false_implies, and_true, true_and, ne_eq, not_true_eq_false, not_false_eq_true, reduceCtorEq, reduceIte, Int.natCast_zero, Int.natCast_one, Int.cast_ofNat_Int]
    exact h
  · simp only [parseR, e] at h
    simp only [wpx, xOps, xOp, xOne, aget, aStep, aBin, aShift, setDst, thenX, blockX, bodyX, aRes, aTuple, List.length_cons, List.length_nil, List.replicate, List.cons_append, List.nil_append, List.getD_cons_zero, List.getD_cons_succ, List.getElem?_cons_zero, List.getElem?_cons_succ, List.getElem?_nil, List.set_cons_zero, List.set_cons_succ, List.map_cons, List.map_nil, Nat.reduceAdd, Nat.reduceSub, Nat.reduceLT, Nat.reduceLeDiff, Option.map_some, Option.map_none, if_true, if_false, true_implies, false_implies, and_true, true_and, ne_eq, not_true_eq_false, not_false_eq_true, reduceCtorEq, reduceIte, Int.natCast_zero, Int.natCast_one, Int.cast_ofNat_Int]
    exact h

/-- The objects behind the list of all rights. -/
def allH : Heap := [.arr 1 [[.int .i64 0]] false, .arr 1 [[.int .i64 0], [.int .i64 1], [.int .i64 2], [.int .i64 3], [.int .i64 4], [.int .i64 5], [.int .i64 6], [.int .i64 7]] false,
  .arr 1 [[.int .i64 1]] false, .arr 1 [[.int .i64 2]] false, .arr 1 [[.int .i64 3]] false, .arr 1 [[.int .i64 4]] false, .arr 1 [[.int .i64 5]] false, .arr 1 [[.int .i64 6]] false, .arr 1 [[.int .i64 7]] false]

theorem all_spec {K : AVal → Heap → Prop} (h : K (.slice 1 8 0 8 false) allH) : ACalls Try.prog 36 [] [] K :=
  runF_sound tabOk 20 5 _ _ _ _ _ (by kernel_rfl) K h

def allX : List (List AVal) := (List.range 8).map fun i => [.int .i64 (Int.ofNat i)]
theorem allX_len : allX.length = 8 := by simp [allX]
theorem allX_get {i : Nat} (h : i < 8) : allX[i]? = some [.int .i64 (i : Int)] := by simp [allX, h]
theorem allH_get : allH[1]? = some (.arr 1 allX false) := by rfl

theorem loop34 {s : List UInt8} {n0 : Nat} {Q : Exit → St → Prop} : ∀ (n i : Nat), n + i = 8 →
    (∀ (r : Int) u t, findR s n i = (r, true) → Q .ret ⟨.str s :: u :: .int .i64 r :: .bool true :: t, allH⟩) → (findR s n i = (0, false) → ∀ u t, Q (.exit 0) ⟨.str s :: u :: .int .i64 0 :: .bool false :: t, allH⟩) →
    ALoop Try.prog n0 b34_2 Q ⟨[.str s, .top, .int .i64 0, .bool false, .top, .top, .slice 1 8 0 8 false, .int .i64 8, .int .i64 i, .top, .top, .top, .top, .top, .top, .top, .top, .top], allH⟩
  | 0, i, hi, h1, h2 => by
    obtain rfl : i = 8 := by omega
    refine ALoop.unfold ?_
    simp only [wpx_of b34_2.eq_1, wpx_of k34_0.eq_1, wpx_of k34_1.eq_1, wpx_of k34_3.eq_1, wpx, xOps, xOp, xOne, aget, aStep, aBin, aShift, setDst, thenX, blockX, bodyX, aRes, aTuple, List.length_cons, List.length_nil, List.replicate, List.cons_append, List.nil_append, List.getD_cons_zero, List.getD_cons_succ, List.getElem?_cons_zero, List.getElem?_cons_succ, List.getElem?_nil, List.set_cons_zero, List.set_cons_succ, List.map_cons, List.map_nil, Nat.reduceAdd, Nat.reduceSub, Nat.reduceLT, Nat.reduceLeDiff, Option.map_some, Option.map_none, if_true, if_false, true_implies, false_implies, and_true, true_and, ne_eq, not_true_eq_false, not_false_eq_true, reduceCtorEq, reduceIte, Int.natCast_zero, Int.natCast_one, Int.cast_ofNat_Int]
    exact ⟨fun h => by simp at h, fun _ => h2 rfl _ _⟩
  | n + 1, i, hi, h1, h2 => by
    have hl : i < 8 := by omega
    have hc : 0 ≤ (i : Int) ∧ (i : Int) < 8 := by omega
    refine ALoop.unfold ?_
    simp only [wpx_of b34_2.eq_1, wpx_of k34_0.eq_1, wpx_of k34_1.eq_1, wpx_of k34_3.eq_1, allH_get, allX_len, hc, Int.toNat_natCast, Nat.zero_add, allX_get hl, decide_true, wpx, xOps, xOp, xOne, aget, aStep, aBin, aShift, setDst, thenX, blockX, bodyX, aRes, aTuple, List.length_cons, List.length_nil, List.replicate, List.cons_append, List.nil_append, List.getD_cons_zero, List.getD_cons_succ, List.getElem?_cons_zero, List.getElem?_cons_succ, List.getElem?_nil, List.set_cons_zero, List.set_cons_succ, List.map_cons, List.map_nil, Nat.reduceAdd, Nat.reduceSub, Nat.reduceLT, Nat.reduceLeDiff, Option.map_some, Option.map_none, if_true, if_false, true_implies, false_implies, and_true, true_and, ne_eq, not_true_eq_false, not_false_eq_true, reduceCtorEq, reduceIte, Int.natCast_zero, Int.natCast_one, Int.cast_ofNat_Int]
    refine text_spec ?_
    simp only [wpx, xOps, xOp, xOne, aget, aStep, aBin, aShift, setDst, thenX, blockX, bodyX, aRes, aTuple, List.length_cons, List.length_nil, List.replicate, List.cons_append, List.nil_append, List.getD_cons_zero, List.getD_cons_succ, List.getElem?_cons_zero, List.getElem?_cons_succ, List.getElem?_nil, List.set_cons_zero, List.set_cons_succ, List.map_cons, List.map_nil, Nat.reduceAdd, Nat.reduceSub, Nat.reduceLT, Nat.reduceLeDiff, Option.map_some, Option.map_none, if_true, if_false, true_implies, false_implies, and_true, true_and, ne_eq, not_true_eq_false, not_false_eq_true, reduceCtorEq, reduceIte, Int.natCast_zero, Int.natCast_one, Int.cast_ofNat_Int]
    refine ⟨fun h => h1 _ _ _ ?_, fun h => ?_⟩
    · simp only [decide_eq_true_eq] at h
      simp [findR, h]
    · simp only [decide_eq_false_iff_not] at h
      have e : findR s (n + 1) i = findR s n (i + 1) := by simp [findR, h]
      rw [e] at h1 h2
      have hw : IntKind.wrap .i64 ((i : Int) + 1) = ((i + 1 : Nat) : Int) := by rw [wrap64 (by omega) (by omega)]; omega
      rw [hw]
      exact ALoop.weaken (by simp [weaker]) (loop34 n (i + 1) (by omega) h1 h2)

theorem parse_spec {s : List UInt8} {H : Heap} {K : AVal → Heap → Prop} (h : K (.tup [.int .i64 (parseR s).1, .bool (parseR s).2]) H) : ACalls Try.prog 34 [.str s] H K := by
  refine ACalls.flat rfl (R := fun v => v = .tup [.int .i64 (parseR s).1, .bool (parseR s).2]) ?_ (fun v hv => hv ▸ h)
  refine ACalls.enter ok34 ?_; simp only [c34, wpx_of k34_0.eq_1, wpx_of k34_1.eq_1, wpx_of k34_3.eq_1, wpx, xOps, xOp, xOne, aget, aStep, aBin, aShift, setDst, thenX, blockX, bodyX, aRes, aTuple, List.length_cons, List.length_nil, List.replicate, List.cons_append, List.nil_append, List.getD_cons_zero, List.getD_cons_succ, List.getElem?_cons_zero, List.getElem?_cons_succ, List.getElem?_nil, List.set_cons_zero, List.set_cons_succ, List.map_cons, List.map_nil, Nat.reduceAdd, Nat.reduceSub, Nat.reduceLT, Nat.reduceLeDiff, Option.map_some, Option.map_none, if_true, if_false, true_implies, false_implies, and_true, true_and, ne_eq, not_true_eq_false, not_false_eq_true, reduceCtorEq, reduceIte, Int.natCast_zero, Int.natCast_one, Int.cast_ofNat_Int]
  refine all_spec ?_
  simp only [wpx, xOps, xOp, xOne, aget, aStep, aBin, aShift, setDst, thenX, blockX, bodyX, aRes, aTuple, List.length_cons, List.length_nil, List.replicate, List.cons_append, List.nil_append, List.getD_cons_zero, List.getD_cons_succ, List.getElem?_cons_zero, List.getElem?_cons_succ, List.getElem?_nil, List.set_cons_zero, List.set_cons_succ, List.map_cons, List.map_nil, Nat.reduceAdd, Nat.reduceSub, Nat.reduceLT, Nat.reduceLeDiff, Option.map_some, Option.map_none, if_true, if_false, true_implies, false_implies, and_true, true_and, ne_eq, not_true_eq_false, not_false_eq_true, reduceCtorEq, reduceIte, Int.natCast_zero, Int.natCast_one, Int.cast_ofNat_Int, allH_get]
  refine loop34 8 0 rfl (fun r u t e => ?_) (fun e u t => ?_)
  · simp only [wpx, xOps, xOp, xOne, aget, aStep, aBin, aShift, setDst, thenX, blockX, bodyX, aRes, aTuple, List.length_cons, List.length_nil, List.replicate, List.cons_append, List.nil_append, List.getD_cons_zero, List.getD_cons_succ, List.getElem?_cons_zero, List.getElem?_cons_succ, List.getElem?_nil, List.set_cons_zero, List.set_cons_succ, List.map_cons, List.map_nil, Nat.reduceAdd, Nat.reduceSub, Nat.reduceLT, Nat.reduceLeDiff, Option.map_some, Option.map_none, if_true, if_false, true_implies, false_implies, and_true, true_and, ne_eq, not_true_eq_false, not_false_eq_true, reduceCtorEq, reduceIte, Int.natCast_zero, Int.natCast_one, Int.cast_ofNat_Int, parseR, e]
    rfl
  · simp only [wpx, xOps, xOp, xOne, aget, aStep, aBin, aShift, setDst, thenX, blockX, bodyX, aRes, aTuple, List.length_cons, List.length_nil, List.replicate, List.cons_append, List.nil_append, List.getD_cons_zero, List.getD_cons_succ, List.getElem?_cons_zero, List.getElem?_cons_succ, List.getElem?_nil, List.set_cons_zero, List.set_cons_succ, List.map_cons, List.map_nil, Nat.reduceAdd, Nat.reduceSub, Nat.reduceLT, Nat.reduceLeDiff, Option.map_some, Option.map_none, if_true, if_false, true_implies, false_implies, and_true, true_and, ne_eq, not_true_eq_false, not_false_eq_true, reduceCtorEq, reduceIte, Int.natCast_zero, Int.natCast_one, Int.cast_ofNat_Int, parseR, e]
    rfl

end Go.Proofs.Ytcdihghokoinhaa.Ax
