/- Calls in words: what the program's functions answer. Conditions: none. -/
import Derived.Test.YtlaipllgmddkiaaGreatSPathZ
set_option linter.unusedSimpArgs false
set_option linter.unusedVariables false
set_option linter.defProp false
namespace Go.Ax.M
open Go Go.Ax
def markF : List (Nat × Nat) := [(0, 8), (8, 16), (24, 16)]
theorem markF_ok : FOk markF := ⟨by decide, by decide⟩
def markV (c : Call) : List Int := [c.op, c.x, c.y]
theorem markV_ok {c : Call} (h : callGood c = true) : ∀ k, k < markF.length → 0 ≤ (markV c).getD k 0 ∧ (markV c).getD k 0 < 2 ^ (markF.getD k (0, 0)).2 := by
 intro k hk
 have := callGood_in h
 have hk : k < 3 := hk
 rcases k with _ | _ | _ | k
 ·simp [markV, markF]; omega
 ·simp [markV, markF]; omega
 ·simp [markV, markF]; omega
 ·omega
theorem mark_put {c : Call} : putN markF (markV c) markF.length = c.op + c.x * 256 + c.y * 16777216 := by simp [putN, markF, markV]
theorem mark_get {w : Int} : getN w markF = [w % 256, w / 256 % 65536, w / 16777216 % 65536] := by simp [getN, markF]
theorem path_or {p : List Int} (h : p = [] ∨ pGood p = true) : (bif pGood p then pathW p else 0) = pathW p := by
 rcases h with rfl | h
 ·simp [pGood, pathW_nil]
 ·simp [h]
theorem Gc.call2 {H L : Heap} {K : AVal → Heap → Prop} {i j : Nat} {a b : List Int} {op x y w : Int} (hi : L[i]? = some (.arr 1 (ints a) false)) (hj : L[j]? = some (.arr 1 (ints b) false)) (hij : i ≠ j)
 (h : K (.tup [.agg [.int .i64 op, .slice H.length a.length 0 a.length false, .slice (H.length + 1) b.length 0 b.length false, .int .i64 x, .int .i64 y, .int .u64 w], .bool true]) (H ++ [.arr 1 (ints a) false, .arr 1 (ints b) false])) :
 Gc H K (.tup [.agg [.int .i64 op, .slice (H.length + i) a.length 0 a.length false, .slice (H.length + j) b.length 0 b.length false, .int .i64 x, .int .i64 y, .int .u64 w], .bool true]) (H ++ L) := by
 refine ⟨[i, j], L, _, _, rfl, Sel.two hi hj hij (.plain ints_plain) (.plain ints_plain), ?_, h⟩
 refine ⟨_, rfl, _, _, rfl, ?_, VRens.refl (plainsL_refs (by simp [AVal.plain, plains]))⟩
 exact ⟨_, rfl, _, _, rfl, rfl, _, _, rfl, ⟨H.length, rfl, .inr ⟨i, 0, rfl, rfl, rfl⟩⟩, _, _, rfl, ⟨H.length + 1, rfl, .inr ⟨j, 1, rfl, rfl, rfl⟩⟩, VRens.refl (plainsL_refs (by simp [AVal.plain, plains]))⟩
theorem Gc.call1 {H L : Heap} {K : AVal → Heap → Prop} {i : Nat} {a : List Int} {op x y w : Int} (hi : L[i]? = some (.arr 1 (ints a) false))
 (h : K (.tup [.agg [.int .i64 op, .slice H.length a.length 0 a.length false, .lit (.slice none 0 0), .int .i64 x, .int .i64 y, .int .u64 w], .bool true]) (H ++ [.arr 1 (ints a) false])) :
 Gc H K (.tup [.agg [.int .i64 op, .slice (H.length + i) a.length 0 a.length false, .lit (.slice none 0 0), .int .i64 x, .int .i64 y, .int .u64 w], .bool true]) (H ++ L) := by
 refine ⟨[i], L, _, _, rfl, Sel.one hi (.plain ints_plain), ?_, h⟩
 refine ⟨_, rfl, _, _, rfl, ?_, VRens.refl (plainsL_refs (by simp [AVal.plain, plains]))⟩
 exact ⟨_, rfl, _, _, rfl, rfl, _, _, rfl, ⟨H.length, rfl, .inr ⟨i, 0, rfl, rfl, rfl⟩⟩, VRens.refl (plainsL_refs (by simp [AVal.plain, plains]))⟩
end Go.Ax.M
namespace Go.Proofs.YtlaipllgmddkiaaGreat.Ax
open Go Go.Ax Go.Ax.M
set_option maxRecDepth 100000
section
variable {H : Heap} {K : AVal → Heap → Prop} {oA oB oL : Nat} {fA fB rA rB fL rL : Bool} {op x y w : Int} {a b : List Int}
theorem words_Equal_spec {l m : List Int} {o o' : Nat} {f f' r r' : Bool} (h1 : H[o]? = some (.arr 1 (wordsC l) r)) (h2 : H[o']? = some (.arr 1 (wordsC m) r')) (hl : l.length ≤ 100000)
 (h : K (.bool (decide (l = m))) H) : ACalls Tryz.prog 127 [.slice o l.length 0 l.length f, .slice o' m.length 0 m.length f'] H K := by
 have he : listEq (fun x y : Int => decide (x = y)) 0 l m = decide (l = m) := by
  rw [Bool.eq_iff_iff, listEq_iff (by simp)]; simp
 refine into ok127 ?_; (try simp only [c127, w127, nlt_iff, Int.natCast_inj, go_sem]); repeat' ((first | refine And.intro (.inr rfl) ?_ | (refine sp ?_ ?_ <;> intro hc) | fail) <;> try simp only [*, w127, nlt_iff, Int.natCast_inj, go_sem])
 ·have : ¬ l = m := by intro e; subst e; omega
  rw [decide_eq_false this] at h; exact h
 ·have hle : l.length = m.length := by omega
  refine ALoop.keep [13, 0, 1, 12] ?_; simp only [List.map_cons, List.map_nil, go_sem]
  refine ALoop.cnt (fun k => ((List.range k).all fun k => decide (l.getD k 0 = m.getD k 0)) = true) l.length (by simp) fun k hk hI next => ?_
  refine ALoop.unfold ?_
  have hw := wrap_succ (k := k) (by omega)
  have hg1 : k < l.length → _ := fun h => wordsC_get (l := l) (k := k) h
  have hg2 : k < l.length → _ := fun h => wordsC_get (l := m) (k := k) (hle ▸ h)
  have hlu : k < l.length → k < m.length := fun h => hle ▸ h
  have e : decide (l = m) = (List.range l.length).all fun k => decide (l.getD k 0 = m.getD k 0) := by rw [← he]; simp only [listEq, hle, decide_true, Bool.true_and]
  clear hle he
  (try simp only [w127, hg1, hg2, hw, hlu, wpx_of b127_4.eq_1, nlt_iff, n0_le, go_sem]); repeat' ((first | refine And.intro (.inr rfl) ?_ | (refine sp ?_ ?_ <;> intro hc) | fail) <;> try simp only [*, w127, hg1, hg2, hw, hlu, wpx_of b127_4.eq_1, nlt_iff, n0_le, go_sem])
  ·refine kb h ?_
   rw [e]; exact (all_range_false (k := k) (by omega) (by simp only [decide_eq_false_iff_not]; assumption)).symm
  ·(refine ALoop.keep [13, 0, 1, 12] ?_; simp only [List.map_cons, List.map_nil, go_sem]; refine next (by omega) ?_)
   rw [all_range (N := 0), hI]; simp only [Bool.true_and, decide_eq_true_eq]; omega
  ·have hk : k = l.length := by omega
   subst hk
   exact kb h (by rw [e, hI])
theorem words_Equal_x {l m : List Int} {n n' o o' : Nat} {f f' r r' : Bool} (hn : l.length = n) (hn' : m.length = n') (h1 : H[o]? = some (.arr 1 (wordsC l) r)) (h2 : H[o']? = some (.arr 1 (wordsC m) r')) (hl : n ≤ 100000)
 (h : K (.bool (decide (l = m))) H) : ACalls Tryz.prog 127 [.slice o n 0 n f, .slice o' n' 0 n' f'] H K := by subst hn hn'; exact words_Equal_spec h1 h2 hl h
theorem words_Equal_nil {n : Nat} (hn : (0 = (n : Int)) = False) (h : K (.bool false) H) : ACalls Tryz.prog 127 [.lit (.slice none 0 0), .slice oL n 0 n fL] H K := by
 refine into ok127 ?_; (try simp only [c127, w127, hn, Int.natCast_inj, go_sem]); repeat' ((first | refine And.intro (.inr rfl) ?_ | (refine sp ?_ ?_ <;> intro hc) | fail) <;> try simp only [*, w127, hn, Int.natCast_inj, go_sem])
 exact h
theorem call_marks_spec (h : K (.slice H.length 3 0 3 true) (H ++ [.arr 2 (fieldsC markF) false])) : ACalls Tryz.prog 122 [] H K := by
 refine ACalls.gc ?_
 refine into ok122 ?_; (try simp only [c122, wpx_of k122_0.eq_1, go_sem]); repeat' ((first | refine And.intro (.inr rfl) ?_ | (refine sp ?_ ?_ <;> intro hc) | fail) <;> try simp only [*, wpx_of k122_0.eq_1, go_sem])
 exact Gc.slice (i := 0) rfl (by decide) h
theorem call_Words_spec {c : M.Call} (hA : H[oA]? = some (.arr 1 (ints c.a) rA)) (hB : H[oB]? = some (.arr 1 (ints c.b) rB)) (hg : callGood c = true)
 (h : K (.slice H.length 4 0 4 true) (H ++ [.arr 1 (wordsC (cWords c)) false])) : ACalls Tryz.prog 53 [.agg [.int .i64 c.op, .slice oA c.a.length 0 c.a.length fA, .slice oB c.b.length 0 c.b.length fB, .int .i64 c.x, .int .i64 c.y, .int .u64 c.w]] H K := by
 have kA := Keeps.of hA
 have kB := Keeps.of hB
 have hi := callGood_in hg
 have w1 : IntKind.wrap .u64 c.op = c.op := wrap_u (by omega) (by omega)
 have w2 : IntKind.wrap .u64 c.x = c.x := wrap_u (by omega) (by omega)
 have w3 : IntKind.wrap .u64 c.y = c.y := wrap_u (by omega) (by omega)
 have pa := path_or (.inr hi.2.2.2.2.2.2.1)
 have pb := path_or hi.2.2.2.2.2.2.2
 have hm := mark_put (c := c)
 refine ACalls.gc ?_
 refine into ok53 ?_; (try simp only [c53, w53, hg, w1, w2, w3, pa, pb, hm, cond_true, go_sem]); repeat' ((first | refine And.intro (.inr rfl) ?_ | (refine sp ?_ ?_ <;> intro hc) | refine call_Good_spec (c := c) (kA _) (kB _) ?_ | refine call_marks_spec ?_ | refine tag_Put_spec (F := markF) (v := markV c) markF_ok (by first | exact at0 | exact at1 | exact at2 | exact at3 | exact at4 | exact at5 | exact at6 | exact at7 | exact at8 | exact at9 | exact at10 | exact at11 | exact at12 | exact at13 | exact at14 | exact at15 | exact at16 | exact atX rfl) (by first | exact at0 | exact at1 | exact at2 | exact at3 | exact at4 | exact at5 | exact at6 | exact at7 | exact at8 | exact at9 | exact at10 | exact at11 | exact at12 | exact at13 | exact at14 | exact at15 | exact at16 | exact atX rfl) rfl (markV_ok hg) ?_ | refine path_Word_spec (p := c.a) (kA _) ?_ | refine path_Word_spec (p := c.b) (kB _) ?_) <;> try simp only [*, w53, hg, w1, w2, w3, pa, pb, hm, cond_true, go_sem])
 have e : ([[.int .u64 (c.op + c.x * 256 + c.y * 16777216)], [.int .u64 (pathW c.a)], [.int .u64 (pathW c.b)], [.int .u64 c.w]] : List (List AVal)) = wordsC (cWords c) := rfl
 simp only [cond_true, e]
 exact Gc.slice (n := 4) (i := 3) rfl wordsC_plain h
theorem call_Words_bad {c : M.Call} (hA : H[oA]? = some (.arr 1 (ints c.a) rA)) (hB : H[oB]? = some (.arr 1 (ints c.b) rB)) (hg : callGood c = false)
 (h : K (.lit (.slice none 0 0)) H) : ACalls Tryz.prog 53 [.agg [.int .i64 c.op, .slice oA c.a.length 0 c.a.length fA, .slice oB c.b.length 0 c.b.length fB, .int .i64 c.x, .int .i64 c.y, .int .u64 c.w]] H K := by
 have kA := Keeps.of hA
 have kB := Keeps.of hB
 refine ACalls.gc ?_
 refine into ok53 ?_; (try simp only [c53, w53, hg, go_sem]); repeat' ((first | refine And.intro (.inr rfl) ?_ | (refine sp ?_ ?_ <;> intro hc) | refine call_Good_spec (c := c) (kA _) (kB _) ?_) <;> try simp only [*, w53, hg, go_sem])
 exact Gc.old (by simp [AVal.refs]) h
theorem call_Words_nil (hA : H[oA]? = some (.arr 1 (ints a) rA)) (hg : callGood ⟨op, a, [], x, y, w⟩ = true)
 (h : K (.slice H.length 4 0 4 true) (H ++ [.arr 1 (wordsC (cWords ⟨op, a, [], x, y, w⟩)) false])) : ACalls Tryz.prog 53 [.agg [.int .i64 op, .slice oA a.length 0 a.length fA, .lit (.slice none 0 0), .int .i64 x, .int .i64 y, .int .u64 w]] H K := by
 refine ACalls.gc (ACalls.lay 1 ?_)
 simp only [Go.Ax.fillN, Go.Ax.fill1, go_sem]
 have kA := Keeps.of hA
 refine call_Words_spec (c := ⟨op, a, [], x, y, w⟩) (oB := H.length) (rB := false) (kA _) at0 hg ?_
 rw [List.append_assoc]
 have := Gc.slice (H := H) (L := [.arr 1 [] false, .arr 1 (wordsC (cWords ⟨op, a, [], x, y, w⟩)) false]) (K := K) (i := 1) (n := 4) (f := true) rfl wordsC_plain h
 simpa using this
theorem call_Words_badN (hA : H[oA]? = some (.arr 1 (ints a) rA)) (hg : callGood ⟨op, a, [], x, y, w⟩ = false) (h : K (.lit (.slice none 0 0)) H) :
 ACalls Tryz.prog 53 [.agg [.int .i64 op, .slice oA a.length 0 a.length fA, .lit (.slice none 0 0), .int .i64 x, .int .i64 y, .int .u64 w]] H K := by
 refine ACalls.gc (ACalls.lay 1 ?_)
 simp only [Go.Ax.fillN, Go.Ax.fill1, go_sem]
 have kA := Keeps.of hA
 refine call_Words_bad (c := ⟨op, a, [], x, y, w⟩) (oB := H.length) (rB := false) (kA _) at0 hg ?_
 exact Gc.old (by simp [AVal.refs]) h
theorem noWay {b : List Int} : callGood ⟨op, [], b, x, y, w⟩ = false := by simp [callGood, pGood]
theorem call_Words_badA (hB : H[oB]? = some (.arr 1 (ints b) rB)) (h : K (.lit (.slice none 0 0)) H) :
 ACalls Tryz.prog 53 [.agg [.int .i64 op, .lit (.slice none 0 0), .slice oB b.length 0 b.length fB, .int .i64 x, .int .i64 y, .int .u64 w]] H K := by
 refine ACalls.gc (ACalls.lay 1 ?_)
 simp only [Go.Ax.fillN, Go.Ax.fill1, go_sem]
 have kB := Keeps.of hB
 refine call_Words_bad (c := ⟨op, [], b, x, y, w⟩) (oA := H.length) (rA := false) at0 (kB _) noWay ?_
 exact Gc.old (by simp [AVal.refs]) h
theorem call_Words_badAN (h : K (.lit (.slice none 0 0)) H) :
 ACalls Tryz.prog 53 [.agg [.int .i64 op, .lit (.slice none 0 0), .lit (.slice none 0 0), .int .i64 x, .int .i64 y, .int .u64 w]] H K := by
 refine ACalls.gc (ACalls.lay 1 ?_)
 simp only [Go.Ax.fillN, Go.Ax.fill1, go_sem]
 refine call_Words_bad (c := ⟨op, [], [], x, y, w⟩) (oA := H.length) (rA := false) (oB := H.length) (rB := false) at0 at0 noWay ?_
 exact Gc.old (by simp [AVal.refs]) h
def zeroCall : AVal := .agg [.int .i64 0, .lit (.slice none 0 0), .lit (.slice none 0 0), .int .i64 0, .int .i64 0, .int .u64 0]
set_option maxHeartbeats 2000000 in
theorem call_Get_spec {l0 l1 l2 l3 : Int} (hL : H[oL]? = some (.arr 1 (wordsC [l0, l1, l2, l3]) rL)) (u0 : 0 ≤ l0 ∧ l0 < 2 ^ 64) (u1 : 0 ≤ l1 ∧ l1 < 2 ^ 64) (u2 : 0 ≤ l2 ∧ l2 < 2 ^ 64) (h : gOk l0 l1 l2 l3 = false → K (.tup [zeroCall, .bool false]) H)
 (hn : gOk l0 l1 l2 l3 = true → (gCall l0 l1 l2 l3).b = [] → K (.tup [.agg [.int .i64 (gCall l0 l1 l2 l3).op, .slice H.length (gCall l0 l1 l2 l3).a.length 0 (gCall l0 l1 l2 l3).a.length false, .lit (.slice none 0 0), .int .i64 (gCall l0 l1 l2 l3).x, .int .i64 (gCall l0 l1 l2 l3).y, .int .u64 (gCall l0 l1 l2 l3).w], .bool true])
  (H ++ [.arr 1 (ints (gCall l0 l1 l2 l3).a) false]))
 (h' : gOk l0 l1 l2 l3 = true → (gCall l0 l1 l2 l3).b ≠ [] → K (.tup [.agg [.int .i64 (gCall l0 l1 l2 l3).op, .slice H.length (gCall l0 l1 l2 l3).a.length 0 (gCall l0 l1 l2 l3).a.length false, .slice (H.length + 1) (gCall l0 l1 l2 l3).b.length 0 (gCall l0 l1 l2 l3).b.length false, .int .i64 (gCall l0 l1 l2 l3).x, .int .i64 (gCall l0 l1 l2 l3).y, .int .u64 (gCall l0 l1 l2 l3).w], .bool true])
  (H ++ [.arr 1 (ints (gCall l0 l1 l2 l3).a) false, .arr 1 (ints (gCall l0 l1 l2 l3).b) false])) :
 ACalls Tryz.prog 55 [.slice oL 4 0 4 fL] H K := by
 have kL := Keeps.of hL
 have m1 := mark_get (w := l0)
 have m2 : markF.length = 3 := rfl
 have w1 : IntKind.wrap .i64 (l0 % 256) = l0 % 256 := w64 (by omega) (by omega)
 have w2 : IntKind.wrap .i64 (l0 / 256 % 65536) = l0 / 256 % 65536 := w64 (by omega) (by omega)
 have w3 : IntKind.wrap .i64 (l0 / 16777216 % 65536) = l0 / 16777216 % 65536 := w64 (by omega) (by omega)
 refine ACalls.gc ?_
 simp only [gOk, gCall] at h h' hn
 have h4 : ((0 : Int) = ((4 : Nat) : Int)) = False := by decide
 have hlen : (cWords ⟨l0 % 256, pGet l1, pGet l2, l0 / 256 % 65536, l0 / 16777216 % 65536, l3⟩).length = 4 := rfl
 cases hg : callGood ⟨l0 % 256, pGet l1, pGet l2, l0 / 256 % 65536, l0 / 16777216 % 65536, l3⟩ with
 | false =>
  have h := h (by rw [hg]; rfl)
  clear h' hn
  by_cases ha : pGet l1 = []
  ·by_cases hb : pGet l2 = []
   ·rw [ha, hb] at hg
    refine into ok55 ?_; (try simp only [c55, w55, kL, m1, m2, w1, w2, w3, wordsC, List.map_cons, List.map_nil, go_sem]); repeat' ((first | refine And.intro (.inr rfl) ?_ | (refine sp ?_ ?_ <;> intro hc) | refine call_marks_spec ?_ | refine tag_Get_spec (F := markF) markF_ok (by decide) u0.1 u0.2 (by first | exact at0 | exact at1 | exact at2 | exact at3 | exact at4 | exact at5 | exact at6 | exact at7 | exact at8 | exact at9 | exact at10 | exact at11 | exact at12 | exact at13 | exact at14 | exact at15 | exact at16 | exact atX rfl) ?_ | refine path_Get_spec u1.1 u1.2 (fun e => ?_) (fun _ => absurd ha (by assumption)) | refine path_Get_spec u2.1 u2.2 (fun e => ?_) (fun _ => absurd hb (by assumption)) | refine call_Words_badAN ?_ | refine words_Equal_nil h4 ?_) <;> try simp only [*, w55, kL, m1, m2, w1, w2, w3, wordsC, List.map_cons, List.map_nil, go_sem])
    exact Gc.old (by simp [zeroCall, AVal.refs, refsL]) h
   ·rw [ha] at hg
    refine into ok55 ?_; (try simp only [c55, w55, kL, m1, m2, w1, w2, w3, wordsC, List.map_cons, List.map_nil, go_sem]); repeat' ((first | refine And.intro (.inr rfl) ?_ | (refine sp ?_ ?_ <;> intro hc) | refine call_marks_spec ?_ | refine tag_Get_spec (F := markF) markF_ok (by decide) u0.1 u0.2 (by first | exact at0 | exact at1 | exact at2 | exact at3 | exact at4 | exact at5 | exact at6 | exact at7 | exact at8 | exact at9 | exact at10 | exact at11 | exact at12 | exact at13 | exact at14 | exact at15 | exact at16 | exact atX rfl) ?_ | refine path_Get_spec u1.1 u1.2 (fun e => ?_) (fun _ => absurd ha (by assumption)) | refine path_Get_spec u2.1 u2.2 (fun e => absurd e hb) (fun _ => ?_) | refine call_Words_badA (b := pGet l2) (by first | exact at0 | exact at1 | exact at2 | exact at3 | exact at4 | exact at5 | exact at6 | exact at7 | exact at8 | exact at9 | exact at10 | exact at11 | exact at12 | exact at13 | exact at14 | exact at15 | exact at16 | exact atX rfl) ?_ | refine words_Equal_nil h4 ?_) <;> try simp only [*, w55, kL, m1, m2, w1, w2, w3, wordsC, List.map_cons, List.map_nil, go_sem])
    exact Gc.old (by simp [zeroCall, AVal.refs, refsL]) h
  ·by_cases hb : pGet l2 = []
   ·rw [hb] at hg
    refine into ok55 ?_; (try simp only [c55, w55, kL, m1, m2, w1, w2, w3, wordsC, List.map_cons, List.map_nil, go_sem]); repeat' ((first | refine And.intro (.inr rfl) ?_ | (refine sp ?_ ?_ <;> intro hc) | refine call_marks_spec ?_ | refine tag_Get_spec (F := markF) markF_ok (by decide) u0.1 u0.2 (by first | exact at0 | exact at1 | exact at2 | exact at3 | exact at4 | exact at5 | exact at6 | exact at7 | exact at8 | exact at9 | exact at10 | exact at11 | exact at12 | exact at13 | exact at14 | exact at15 | exact at16 | exact atX rfl) ?_ | refine path_Get_spec u1.1 u1.2 (fun e => absurd e ha) (fun _ => ?_) | refine path_Get_spec u2.1 u2.2 (fun e => ?_) (fun _ => absurd hb (by assumption)) | refine call_Words_badN (a := pGet l1) (by first | exact at0 | exact at1 | exact at2 | exact at3 | exact at4 | exact at5 | exact at6 | exact at7 | exact at8 | exact at9 | exact at10 | exact at11 | exact at12 | exact at13 | exact at14 | exact at15 | exact at16 | exact atX rfl) hg ?_ | refine words_Equal_nil h4 ?_) <;> try simp only [*, w55, kL, m1, m2, w1, w2, w3, wordsC, List.map_cons, List.map_nil, go_sem])
    exact Gc.old (by simp [zeroCall, AVal.refs, refsL]) h
   ·skip
    refine into ok55 ?_; (try simp only [c55, w55, kL, m1, m2, w1, w2, w3, wordsC, List.map_cons, List.map_nil, go_sem]); repeat' ((first | refine And.intro (.inr rfl) ?_ | (refine sp ?_ ?_ <;> intro hc) | refine call_marks_spec ?_ | refine tag_Get_spec (F := markF) markF_ok (by decide) u0.1 u0.2 (by first | exact at0 | exact at1 | exact at2 | exact at3 | exact at4 | exact at5 | exact at6 | exact at7 | exact at8 | exact at9 | exact at10 | exact at11 | exact at12 | exact at13 | exact at14 | exact at15 | exact at16 | exact atX rfl) ?_ | refine path_Get_spec u1.1 u1.2 (fun e => absurd e ha) (fun _ => ?_) | refine path_Get_spec u2.1 u2.2 (fun e => absurd e hb) (fun _ => ?_) | refine call_Words_bad (c := gCall l0 l1 l2 l3) (by first | exact at0 | exact at1 | exact at2 | exact at3 | exact at4 | exact at5 | exact at6 | exact at7 | exact at8 | exact at9 | exact at10 | exact at11 | exact at12 | exact at13 | exact at14 | exact at15 | exact at16 | exact atX rfl) (by first | exact at0 | exact at1 | exact at2 | exact at3 | exact at4 | exact at5 | exact at6 | exact at7 | exact at8 | exact at9 | exact at10 | exact at11 | exact at12 | exact at13 | exact at14 | exact at15 | exact at16 | exact atX rfl) hg ?_ | refine words_Equal_nil h4 ?_) <;> try simp only [*, w55, kL, m1, m2, w1, w2, w3, wordsC, List.map_cons, List.map_nil, go_sem])
    exact Gc.old (by simp [zeroCall, AVal.refs, refsL]) h
 | true =>
  have ha : ¬ pGet l1 = [] := fun e => by rw [e, noWay] at hg; cases hg
  simp only [hg, Bool.true_and] at h h' hn
  by_cases hb : pGet l2 = []
  ·clear h'
   simp only [hb] at hg h hn hlen
   refine into ok55 ?_; (try simp only [c55, w55, kL, m1, m2, w1, w2, w3, wordsC, List.map_cons, List.map_nil, go_sem]); repeat' ((first | refine And.intro (.inr rfl) ?_ | (refine sp ?_ ?_ <;> intro hc) | refine call_marks_spec ?_ | refine tag_Get_spec (F := markF) markF_ok (by decide) u0.1 u0.2 (by first | exact at0 | exact at1 | exact at2 | exact at3 | exact at4 | exact at5 | exact at6 | exact at7 | exact at8 | exact at9 | exact at10 | exact at11 | exact at12 | exact at13 | exact at14 | exact at15 | exact at16 | exact atX rfl) ?_ | refine path_Get_spec u1.1 u1.2 (fun e => absurd e ha) (fun _ => ?_) | refine path_Get_spec u2.1 u2.2 (fun e => ?_) (fun _ => absurd hb (by assumption)) | refine call_Words_nil (a := pGet l1) (by first | exact at0 | exact at1 | exact at2 | exact at3 | exact at4 | exact at5 | exact at6 | exact at7 | exact at8 | exact at9 | exact at10 | exact at11 | exact at12 | exact at13 | exact at14 | exact at15 | exact at16 | exact atX rfl) hg ?_ | refine words_Equal_x (l := _) (m := [l0, l1, l2, l3]) hlen rfl (by first | exact at0 | exact at1 | exact at2 | exact at3 | exact at4 | exact at5 | exact at6 | exact at7 | exact at8 | exact at9 | exact at10 | exact at11 | exact at12 | exact at13 | exact at14 | exact at15 | exact at16 | exact atX rfl) (kL _) (by decide) ?_) <;> try simp only [*, w55, kL, m1, m2, w1, w2, w3, wordsC, List.map_cons, List.map_nil, go_sem])
   ·exact Gc.old (by simp [AVal.refs, refsL]) (h (decide_eq_false (by assumption)))
   ·exact Gc.call1 (i := 4) rfl (hn (decide_eq_true (by assumption)) trivial)
  ·clear hn
   refine into ok55 ?_; (try simp only [c55, w55, kL, m1, m2, w1, w2, w3, wordsC, List.map_cons, List.map_nil, go_sem]); repeat' ((first | refine And.intro (.inr rfl) ?_ | (refine sp ?_ ?_ <;> intro hc) | refine call_marks_spec ?_ | refine tag_Get_spec (F := markF) markF_ok (by decide) u0.1 u0.2 (by first | exact at0 | exact at1 | exact at2 | exact at3 | exact at4 | exact at5 | exact at6 | exact at7 | exact at8 | exact at9 | exact at10 | exact at11 | exact at12 | exact at13 | exact at14 | exact at15 | exact at16 | exact atX rfl) ?_ | refine path_Get_spec u1.1 u1.2 (fun e => absurd e ha) (fun _ => ?_) | refine path_Get_spec u2.1 u2.2 (fun e => absurd e hb) (fun _ => ?_) | refine call_Words_spec (c := gCall l0 l1 l2 l3) (by first | exact at0 | exact at1 | exact at2 | exact at3 | exact at4 | exact at5 | exact at6 | exact at7 | exact at8 | exact at9 | exact at10 | exact at11 | exact at12 | exact at13 | exact at14 | exact at15 | exact at16 | exact atX rfl) (by first | exact at0 | exact at1 | exact at2 | exact at3 | exact at4 | exact at5 | exact at6 | exact at7 | exact at8 | exact at9 | exact at10 | exact at11 | exact at12 | exact at13 | exact at14 | exact at15 | exact at16 | exact atX rfl) hg ?_ | refine words_Equal_x (l := cWords (gCall l0 l1 l2 l3)) (m := [l0, l1, l2, l3]) hlen rfl (by first | exact at0 | exact at1 | exact at2 | exact at3 | exact at4 | exact at5 | exact at6 | exact at7 | exact at8 | exact at9 | exact at10 | exact at11 | exact at12 | exact at13 | exact at14 | exact at15 | exact at16 | exact atX rfl) (kL _) (by decide) ?_) <;> try simp only [*, w55, kL, m1, m2, w1, w2, w3, wordsC, List.map_cons, List.map_nil, go_sem])
   ·exact Gc.old (by simp [AVal.refs, refsL]) (h (decide_eq_false (by assumption)))
   ·exact Gc.call2 (i := 4) (j := 5) rfl rfl (by decide) (h' (decide_eq_true (by assumption)) hb)
end
end Go.Proofs.YtlaipllgmddkiaaGreat.Ax
