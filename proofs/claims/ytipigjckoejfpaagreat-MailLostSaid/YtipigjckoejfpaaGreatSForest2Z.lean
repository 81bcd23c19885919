/- What came of what: what the program's functions answer, on. Conditions: none. -/
import Derived.Test.YtipigjckoejfpaaGreatZSt
import Derived.Test.YtipigjckoejfpaaGreatZMo
import Derived.Test.YtipigjckoejfpaaGreatZPu
set_option linter.unusedSimpArgs false
set_option linter.unusedVariables false
namespace Go.Ax
theorem Gc.tupSlice {H L : Heap} {K : AVal → Heap → Prop} {i n s : Nat} {f ro : Bool} {xs : List (List AVal)} {l : List AVal} (hi : L[i]? = some (.arr s xs ro)) (hp : ∀ x ∈ xs, ∀ a ∈ x, a.plain = true) (hl : ∀ a ∈ l, a.plain = true := by simp [AVal.plain]) (h : K (.tup (.agg [.slice H.length n 0 n f] :: l)) (H ++ [.arr s xs ro])) :
    Gc H K (.tup (.agg [.slice (H.length + i) n 0 n f] :: l)) (H ++ L) :=
  ⟨[i], L, [.arr s xs ro], _, rfl, Sel.one hi (.plain hp), ⟨_, rfl, _, _, rfl, ⟨_, rfl, _, _, rfl, ⟨H.length, rfl, .inr ⟨i, 0, rfl, rfl, rfl⟩⟩, rfl⟩, VRens.refl (plainsL_refs hl)⟩, h⟩
end Go.Ax
namespace Go.Proofs.YtipigjckoejfpaaGreat.Ax
open Go Go.Ax Go.Ax.M
set_option linter.unusedSimpArgs false
set_option linter.unusedVariables false
section
variable {H : Heap} {K : AVal → Heap → Prop} {up : List Int} {o : Nat} {fl ro : Bool}

theorem forest_may_spec {i : Int} (ho : H[o]? = some (.arr 1 (ints up) ro)) (h : K (.bool (fMay up i)) H) : ACalls Tryz.prog 214 [.agg [.slice o up.length 0 up.length fl], .int .i64 i] H K := by
  have k1 := Keeps.of ho
  refine ACalls.tidy ?_
  refine ACalls.into ok214 (Nat.le_of_ble_eq_true rfl) ?_; (try simp only [c214, wpx_of k214_0.eq_1, go_sem]); repeat' ((first
    | refine And.intro (Or.inr rfl) ?_
    | ((first | refine cB ?_ ?_ | refine gT ?_ ?_ | refine gF ?_ ?_ | refine dT ?_ ?_ | refine dF ?_ ?_) <;> intro hc)
    | refine forest_Good_spec (k1 _) ?_
    | refine forest_is_spec (k1 _) ?_) <;> try simp only [*, wpx_of k214_0.eq_1, go_sem])
  all_goals (refine tb h (by first | exact ⟨_, rfl⟩ | exact ⟨[], (List.append_nil _).symm⟩ | exact hx | exact hx.app _) ?_; first | (simp only [fMay, *, cond_true, cond_false, Bool.and_true, Bool.true_and, Bool.and_false, Bool.false_and, Bool.or_true, Bool.true_or, Bool.or_false, Bool.false_or, Bool.not_true, Bool.not_false, decide_true, decide_false, go_sem]; done) | (simp_all [fMay]; done) | (simp_all [fMay]; omega) | grind [fMay])

theorem forest_of_spec {i : Int} (ho : H[o]? = some (.arr 1 (ints up) ro)) (hlen : up.length ≤ 1000) (h : K (.slice H.length (fOf up i).length 0 (fOf up i).length false) (H ++ [.arr 1 (ints (fOf up i)) false])) : ACalls Tryz.prog 222 [.agg [.slice o up.length 0 up.length fl], .int .i64 i] H K := by
  have k1 := Keeps.of ho
  refine ACalls.gc ?_
  obtain ⟨p, hp⟩ : ∃ p : Nat → Bool, ∀ k, p k = decide (up.getD k 0 = i) := ⟨fun k => decide (up.getD k 0 = i), fun _ => rfl⟩
  have hfo : fOf up i = pick p up.length := by simp only [fOf]; congr 1; funext k; exact (hp k).symm
  rw [hfo] at h
  refine ACalls.into ok222 (Nat.le_of_ble_eq_true rfl) ?_; (try simp only [c222, wpx_of k222_0.eq_1, wpx_of k222_1.eq_1, wpx_of k222_2.eq_1, wpx_of k222_4.eq_1, k1, go_sem]); repeat' ((first
    | refine And.intro (Or.inr rfl) ?_
    | ((first | refine cB ?_ ?_ | refine gT ?_ ?_ | refine gF ?_ ?_ | refine dT ?_ ?_ | refine dF ?_ ?_) <;> intro hc)) <;> try simp only [*, wpx_of k222_0.eq_1, wpx_of k222_1.eq_1, wpx_of k222_2.eq_1, wpx_of k222_4.eq_1, k1, go_sem])
  refine ALoop.keep [5, 11, 1, 9, 10] ?_; simp only [List.map_cons, List.map_nil, go_sem]
  refine ALoop.lay 1 ?_
  simp only [go_sem]
  refine ALoop.acc (fun k G => [(5, .slice (H.length + 1) (pick p k).length 0 (pick p k).length false), (11, .int .i64 (k : Int))]) (fun k G => H ++ _ :: .arr 1 (ints (pick p k)) false :: G) (fun k G => True) up.length ?_ (a0 := []) trivial
  intro k G hk _ next
  refine ALoop.hid fun W hW => ?_
  have k1 := k1.ex hW.ex
  have kst := hW.keep0
  have ko := hW.keep1
  have k10 := k1.at
  have kst0 := kst.at
  have ko0 := ko.at
  have kos := ko.set
  have hb : ((pick p k).length + 1) * 8 ≤ 140737488355328 := by have := pick_length (p := p) (k := k); omega
  refine ALoop.unfold ?_
  have hw := wrap_succ (k := k) (by omega)
  have hg : k < up.length → _ := fun h => ints_get (l := up) (k := k) h
  clear hfo
  (try simp only [wpx_of k222_0.eq_1, wpx_of k222_1.eq_1, wpx_of k222_2.eq_1, wpx_of k222_4.eq_1, hg, hw, kos, wpx_of b222_3.eq_1, nlt_iff, n0_le, List.cons_append, List.nil_append, go_sem]); repeat' ((first
    | refine And.intro (Or.inr rfl) ?_
    | ((first | refine cB ?_ ?_ | refine gT ?_ ?_ | refine gF ?_ ?_ | refine dT ?_ ?_ | refine dF ?_ ?_) <;> intro hc)) <;> try simp only [*, wpx_of k222_0.eq_1, wpx_of k222_1.eq_1, wpx_of k222_2.eq_1, wpx_of k222_4.eq_1, hg, hw, kos, wpx_of b222_3.eq_1, nlt_iff, n0_le, List.cons_append, List.nil_append, go_sem])
  case' refine_2 =>
    have hk' : k = up.length := by omega
    have hW : W = _ := hW
    subst hk' hW
    exact Gc.slice (i := 1) rfl ints_plain h
  case' refine_1.refine_1 => have e := pick_t (p := p) (k := k) (by rw [hp]; exact decide_eq_true (by assumption))
  case' refine_1.refine_2 => have e := pick_f (p := p) (k := k) (by rw [hp]; exact decide_eq_false (by assumption))
  all_goals
    have hW : W = _ := hW
    subst hW
    simp only [e, ints_append, ints_cons, go_sem] at next
    (refine ALoop.keep [5, 11, 1, 9, 10] ?_; simp only [List.map_cons, List.map_nil, go_sem]; refine next _ (by assumption))

theorem ints_Clone_spec (h1 : H[o]? = some (.arr 1 (ints up) ro)) (hl : up.length ≤ 1000) (h0 : 0 < up.length)
    (h : K (.slice H.length up.length 0 up.length false) (H ++ [.arr 1 (ints up) false])) : ACalls Tryz.prog 231 [.slice o up.length 0 up.length fl] H K := by
  have hn : (up.length = 0) = False := eq_false (by omega)
  have he : (ints up = []) = False := eq_false (by intro e; have := congrArg List.length e; simp [ints] at this; rw [this] at h0; exact absurd h0 (by simp))
  have hb : (0 + up.length) * 8 ≤ 140737488355328 := by omega
  have hb2 : up.length * 8 ≤ 140737488355328 := by omega
  have k1 := Keeps.of h1
  have ht : (ints up).take up.length = ints up := by rw [List.take_of_length_le (by simp [ints])]
  refine ACalls.gc ?_
  refine ACalls.into ok231 (Nat.le_of_ble_eq_true rfl) ?_; (try simp only [c231, wpx_of k231_0.eq_1, wpx_of k231_1.eq_1, wpx_of k231_2.eq_1, hn, he, hb, hb2, h1, k1, ht, go_sem]); repeat' ((first
    | refine And.intro (Or.inr rfl) ?_
    | ((first | refine cB ?_ ?_ | refine gT ?_ ?_ | refine gF ?_ ?_ | refine dT ?_ ?_ | refine dF ?_ ?_) <;> intro hc)) <;> try simp only [*, wpx_of k231_0.eq_1, wpx_of k231_1.eq_1, wpx_of k231_2.eq_1, hn, he, hb, hb2, h1, k1, ht, go_sem])
  exact Gc.slice (i := 1) rfl ints_plain h
theorem forest_clone_spec (h1 : H[o]? = some (.arr 1 (ints up) ro)) (hl : up.length ≤ 1000) (h0 : 0 < up.length)
    (h : K (.agg [.slice H.length up.length 0 up.length false]) (H ++ [.arr 1 (ints up) false])) : ACalls Tryz.prog 276 [.agg [.slice o up.length 0 up.length fl]] H K := by
  have k1 := Keeps.of h1
  refine ACalls.gc ?_
  refine ACalls.into ok276 (Nat.le_of_ble_eq_true rfl) ?_; (try simp only [c276, wpx_of k276_0.eq_1, Nat.add_assoc, go_sem]); repeat' ((first
    | refine And.intro (Or.inr rfl) ?_
    | ((first | refine cB ?_ ?_ | refine gT ?_ ?_ | refine gF ?_ ?_ | refine dT ?_ ?_ | refine dF ?_ ?_) <;> intro hc)
    | refine ints_Clone_spec (k1 _) hl h0 ?_) <;> try simp only [*, wpx_of k276_0.eq_1, Nat.add_assoc, go_sem])
  exact Gc.aggSlice (i := 2) rfl ints_plain h

theorem ints_set {l : List Int} {i : Nat} {v : Int} : (ints l).set i [.int .i64 v] = ints (l.set i v) := by simp [ints, List.map_set]
theorem forest_Move_spec {fr to : Int} (h1 : H[o]? = some (.arr 1 (ints up) ro)) (hl : up.length ≤ 1000) (h0 : 0 < up.length) (hm : fMoveB up fr to = true)
    (h : K (.tup [.agg [.slice H.length up.length 0 up.length false], .bool true]) (H ++ [.arr 1 (ints (fMove up fr to)) false])) : ACalls Tryz.prog 250 [.agg [.slice o up.length 0 up.length fl], .int .i64 fr, .int .i64 to] H K := by
  have k1 := Keeps.of h1
  simp only [fMoveB, Bool.and_eq_true, decide_eq_true_eq, Bool.not_eq_true'] at hm
  obtain ⟨m1, m2, m3, m4⟩ := hm
  have m2' : (to < 0) = False := eq_false (by omega)
  have m3' : ((up.length : Int) ≤ to) = False := eq_false (by omega)
  refine ACalls.gc ?_
  refine ACalls.into ok250 (Nat.le_of_ble_eq_true rfl) ?_; (try simp only [c250, wpx_of k250_0.eq_1, wpx_of k250_1.eq_1, wpx_of k250_2.eq_1, wpx_of k250_4.eq_1, wpx_of k250_5.eq_1, wpx_of k250_6.eq_1, wpx_of k250_7.eq_1, wpx_of k250_8.eq_1, wpx_of k250_9.eq_1, Nat.add_assoc, m1, m2', m3', m4, go_sem]); repeat' ((first
    | refine And.intro (Or.inr rfl) ?_
    | ((first | refine cB ?_ ?_ | refine gT ?_ ?_ | refine gF ?_ ?_ | refine dT ?_ ?_ | refine dF ?_ ?_) <;> intro hc)
    | refine forest_may_spec (k1 _) ?_
    | refine forest_is_spec (k1 _) ?_
    | refine forest_clone_spec (k1 _) hl h0 ?_
    | refine forest_of_spec (up := up) at2 hl ?_) <;> try simp only [*, wpx_of k250_0.eq_1, wpx_of k250_1.eq_1, wpx_of k250_2.eq_1, wpx_of k250_4.eq_1, wpx_of k250_5.eq_1, wpx_of k250_6.eq_1, wpx_of k250_7.eq_1, wpx_of k250_8.eq_1, wpx_of k250_9.eq_1, Nat.add_assoc, m1, m2', m3', m4, go_sem])
  obtain ⟨L, hL⟩ : ∃ L, Hid (L = fOf up fr) := hide _
  have hLr : ∀ k, k < L.length → 0 ≤ L.getD k 0 ∧ L.getD k 0 < up.length := by
    intro k hk
    have e : L = fOf up fr := hL
    have hm : L.getD k 0 ∈ fOf up fr := by rw [← e]; simp [List.getD, hk]
    simp only [fOf, pick, List.mem_map, List.mem_filter, List.mem_range] at hm
    obtain ⟨j, ⟨hj, -⟩, e2⟩ := hm
    have e2 : (j : Int) = L.getD k 0 := e2
    omega
  obtain ⟨S, hS⟩ : ∃ S : Nat → List Int, ∀ k, S k = (L.take k).foldl (fun l k => l.set k.toNat to) up := ⟨fun k => (L.take k).foldl (fun l k => l.set k.toNat to) up, fun _ => rfl⟩
  have hSl : ∀ k, (S k).length = up.length := fun k => by rw [hS]; exact (fold_set _ _).1
  have e : L = fOf up fr := hL
  rw [← e]
  have e0 : up = S 0 := by rw [hS]; simp
  refine ALoop.keep [37, 1, 2, 3, 6, 35, 36] ?_; simp only [List.map_cons, List.map_nil, go_sem]
  refine ALoop.heap (H' := H ++ _ :: _ :: .arr 1 (ints (S 0)) false :: [.arr 1 (ints L) false]) (by rw [← e0]) ?_
  refine ALoop.acc (fun k (_ : Unit) => [(37, .int .i64 (k : Int))]) (fun k _ => H ++ _ :: _ :: .arr 1 (ints (S k)) false :: [.arr 1 (ints L) false]) (fun k _ => True) L.length ?_ (a0 := ()) trivial
  have hLl : L.length ≤ up.length := by rw [e]; simp only [fOf]; exact pick_length
  clear e e0
  have hSh : Hid (∀ k, S k = (L.take k).foldl (fun l k => l.set k.toNat to) up) := hS
  clear hS
  rintro k - hk - next
  refine ALoop.unfold ?_
  have hw := wrap_succ (k := k) (by omega)
  have hr : k < L.length → (0 ≤ L.getD k 0) = True ∧ (L.getD k 0 < (up.length : Int)) = True := fun h => ⟨eq_true (hLr k h).1, eq_true (hLr k h).2⟩
  have hg : k < L.length → (ints L)[k]? = some [.int .i64 (L.getD k 0)] := fun h => ints_get h
  have hgs : k < L.length → (ints (S k))[(L.getD k 0).toNat]? = some [.int .i64 ((S k).getD (L.getD k 0).toNat 0)] := fun h => ints_get (by rw [hSl]; have := hLr k h; omega)
  have hfi : fIs up fr = true := by simp only [fMay, Bool.and_eq_true] at m1; exact m1.2
  rw [fIs_iff] at hfi
  have hf : (0 ≤ fr) = True ∧ (fr < (up.length : Int)) = True := ⟨eq_true hfi.1, eq_true hfi.2.1⟩
  have hf2 : (0 ≤ to) = True ∧ (to < (up.length : Int)) = True := ⟨eq_true m2, eq_true m3⟩
  have hgf : (ints (S k))[fr.toNat]? = some [.int .i64 ((S k).getD fr.toNat 0)] := ints_get (by rw [hSl]; omega)
  have hgt : (ints (S k))[to.toNat]? = some [.int .i64 ((S k).getD to.toNat 0)] := ints_get (by rw [hSl]; omega)
  have hgf2 : ∀ v : Int, (ints ((S k).set to.toNat v))[fr.toNat]? = some [.int .i64 (((S k).set to.toNat v).getD fr.toNat 0)] := fun v => ints_get (by rw [List.length_set, hSl]; omega)
  clear hfi
  (try simp only [wpx_of k250_0.eq_1, wpx_of k250_1.eq_1, wpx_of k250_2.eq_1, wpx_of k250_4.eq_1, wpx_of k250_5.eq_1, wpx_of k250_6.eq_1, wpx_of k250_7.eq_1, wpx_of k250_8.eq_1, wpx_of k250_9.eq_1, hg, hw, hr, hgs, hf, hf2, hgf, hgt, hgf2, ints_set, List.length_set, wpx_of b250_3.eq_1, nlt_iff, n0_le, hSl, List.cons_append, List.nil_append, go_sem]); repeat' ((first
    | refine And.intro (Or.inr rfl) ?_
    | ((first | refine cB ?_ ?_ | refine gT ?_ ?_ | refine gF ?_ ?_ | refine dT ?_ ?_ | refine dF ?_ ?_) <;> intro hc)) <;> try simp only [*, wpx_of k250_0.eq_1, wpx_of k250_1.eq_1, wpx_of k250_2.eq_1, wpx_of k250_4.eq_1, wpx_of k250_5.eq_1, wpx_of k250_6.eq_1, wpx_of k250_7.eq_1, wpx_of k250_8.eq_1, wpx_of k250_9.eq_1, hg, hw, hr, hgs, hf, hf2, hgf, hgt, hgf2, ints_set, List.length_set, wpx_of b250_3.eq_1, nlt_iff, n0_le, hSl, List.cons_append, List.nil_append, go_sem])
  · have e1 : (S k).set (L.getD k 0).toNat to = S (k + 1) := by
      have hS : ∀ k, S k = _ := hSh
      have hk : k < L.length := by assumption
      rw [hS, hS, List.take_succ_eq_append_getElem hk, List.foldl_append]
      simp [List.getD, hk]
    rw [e1]
    (refine ALoop.keep [37, 1, 2, 3, 6, 35, 36] ?_; simp only [List.map_cons, List.map_nil, go_sem]; refine next () (by assumption) trivial)
  · have e1 : ((S k).set to.toNat ((S k).getD fr.toNat 0)).set fr.toNat (-2) = fMove up fr to := by
      have hS : ∀ k, S k = _ := hSh
      have e : L = fOf up fr := hL
      have hk : k = L.length := by omega
      rw [hS, hk, List.take_length, e]
      simp only [fMove]
    rw [e1]
    exact Gc.tupSlice (i := 2) rfl ints_plain (h := h)
end
end Go.Proofs.YtipigjckoejfpaaGreat.Ax
