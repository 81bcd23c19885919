/- What the laws of chapter 3 compare. Conditions: none. -/
import Derived.Test.YtfahkkefcdeohaaZT
import Derived.Test.YtfahkkefcdeohaaSArgRZ
import Derived.Test.YtfahkkefcdeohaaSMem5Z
set_option linter.unusedSimpArgs false
set_option linter.unusedVariables false
namespace Go.Proofs.Ytfahkkefcdeohaa.Ax
open Go Go.Ax Go.Ax.M
set_option maxRecDepth 100000
theorem awake3_spec {H : Heap} {K : AVal → Heap → Prop} (h : K (.bool true) H) : ACalls Try.prog 13 [] H K := run_known (v := .bool true) tab3Ok (loops := 20) (k := 20) (by kernel_rfl) rfl rfl h
section
variable {H : Heap} {K : AVal → Heap → Prop} {o p : Nat} {f fl fp ro rp : Bool} {l : List Int}
theorem law_words_spec {m : List Int} (ho : H[o]? = some (.arr 1 (words l) ro)) (hp : H[p]? = some (.arr 1 (words m) rp)) (hl : l.length ≤ 100000) (hK : K (.bool (decide (l = m))) H) :
    ACalls Try.prog 25 [.slice o l.length 0 l.length fl, .slice p m.length 0 m.length fp] H K := by
  by_cases he : l.length = m.length
  · have he' : ((l.length : Int) = (m.length : Int)) = True := eq_true (by omega)
    have heh : Hid (l.length = m.length) := he
    clear he
    refine ACalls.into ok25 (Nat.le_of_ble_eq_true rfl) ?_; (try simp only [c25, wpx_of k25_0.eq_1, wpx_of k25_1.eq_1, wpx_of k25_2.eq_1, wpx_of k25_4.eq_1, wpx_of k25_5.eq_1, he', go_sem]); repeat' ((first
    | refine And.intro (Or.inr rfl) ?_
    | ((first | refine cB ?_ ?_ | refine gT ?_ ?_ | refine gF ?_ ?_ | refine dT ?_ ?_ | refine dF ?_ ?_) <;> intro hc)) <;> try simp only [*, wpx_of k25_0.eq_1, wpx_of k25_1.eq_1, wpx_of k25_2.eq_1, wpx_of k25_4.eq_1, wpx_of k25_5.eq_1, he', go_sem])
    refine ALoop.keep [5, 0, 1] ?_; simp only [List.map_cons, List.map_nil, go_sem]
    refine ALoop.cnt (fun k => l.take k = m.take k) l.length (by simp) fun k hk hI next => ?_
    refine ALoop.unfold ?_
    have he : l.length = m.length := heh
    have hw := wrap_succ (k := k) (by omega)
    by_cases hkl : k < l.length
    · have hg := words_get hkl
      have hm : k < m.length := by omega
      have hg2 := words_get hm
      have hI2 : Hid (l.take k = m.take k) := hI
      have e1 : l.getD k 0 = l[k] := by simp [List.getD, hkl]
      have e2 : m.getD k 0 = m[k] := by simp [List.getD, hm]
      clear hI he
      by_cases hx : l.getD k 0 = m.getD k 0
      · have hn : l.take (k + 1) = m.take (k + 1) := by
          rw [List.take_succ_eq_append_getElem hkl, List.take_succ_eq_append_getElem hm, ← e1, ← e2, hx, show l.take k = m.take k from hI2]
        have hxx := hx
        clear e1 e2
        (try simp only [wpx_of k25_0.eq_1, wpx_of k25_1.eq_1, wpx_of k25_2.eq_1, wpx_of k25_4.eq_1, wpx_of k25_5.eq_1, hg, hg2, hw, ho, hp, hkl, hm, hx, wpx_of b25_3.eq_1, nlt_iff, n0_le, go_sem]); repeat' ((first
    | refine And.intro (Or.inr rfl) ?_
    | ((first | refine cB ?_ ?_ | refine gT ?_ ?_ | refine gF ?_ ?_ | refine dT ?_ ?_ | refine dF ?_ ?_) <;> intro hc)) <;> try simp only [*, wpx_of k25_0.eq_1, wpx_of k25_1.eq_1, wpx_of k25_2.eq_1, wpx_of k25_4.eq_1, wpx_of k25_5.eq_1, hg, hg2, hw, ho, hp, hkl, hm, hx, wpx_of b25_3.eq_1, nlt_iff, n0_le, go_sem])
        (refine ALoop.keep [5, 0, 1] ?_; simp only [List.map_cons, List.map_nil, go_sem]; refine next hkl hn)
      · have hn : l ≠ m := by rintro rfl; exact hx rfl
        rw [decide_eq_false hn] at hK
        clear e1 e2
        (try simp only [wpx_of k25_0.eq_1, wpx_of k25_1.eq_1, wpx_of k25_2.eq_1, wpx_of k25_4.eq_1, wpx_of k25_5.eq_1, hg, hg2, hw, ho, hp, hkl, hm, hx, wpx_of b25_3.eq_1, nlt_iff, n0_le, go_sem]); repeat' ((first
    | refine And.intro (Or.inr rfl) ?_
    | ((first | refine cB ?_ ?_ | refine gT ?_ ?_ | refine gF ?_ ?_ | refine dT ?_ ?_ | refine dF ?_ ?_) <;> intro hc)) <;> try simp only [*, wpx_of k25_0.eq_1, wpx_of k25_1.eq_1, wpx_of k25_2.eq_1, wpx_of k25_4.eq_1, wpx_of k25_5.eq_1, hg, hg2, hw, ho, hp, hkl, hm, hx, wpx_of b25_3.eq_1, nlt_iff, n0_le, go_sem])
        all_goals exact hK
    · have hk : k = l.length := by omega
      subst hk
      have e : l = m := by rw [List.take_length, he, List.take_length] at hI; exact hI
      rw [decide_eq_true e] at hK
      clear e hI he
      (try simp only [wpx_of k25_0.eq_1, wpx_of k25_1.eq_1, wpx_of k25_2.eq_1, wpx_of k25_4.eq_1, wpx_of k25_5.eq_1, hw, hkl, wpx_of b25_3.eq_1, nlt_iff, n0_le, go_sem]); repeat' ((first
    | refine And.intro (Or.inr rfl) ?_
    | ((first | refine cB ?_ ?_ | refine gT ?_ ?_ | refine gF ?_ ?_ | refine dT ?_ ?_ | refine dF ?_ ?_) <;> intro hc)) <;> try simp only [*, wpx_of k25_0.eq_1, wpx_of k25_1.eq_1, wpx_of k25_2.eq_1, wpx_of k25_4.eq_1, wpx_of k25_5.eq_1, hw, hkl, wpx_of b25_3.eq_1, nlt_iff, n0_le, go_sem])
      all_goals exact hK
  · have he' : ((l.length : Int) = (m.length : Int)) = False := eq_false (by omega)
    have e : decide (l = m) = false := decide_eq_false fun h => he (by rw [h])
    rw [e] at hK
    refine ACalls.into ok25 (Nat.le_of_ble_eq_true rfl) ?_; (try simp only [c25, wpx_of k25_0.eq_1, wpx_of k25_1.eq_1, wpx_of k25_2.eq_1, wpx_of k25_4.eq_1, wpx_of k25_5.eq_1, he', go_sem]); repeat' ((first
    | refine And.intro (Or.inr rfl) ?_
    | ((first | refine cB ?_ ?_ | refine gT ?_ ?_ | refine gF ?_ ?_ | refine dT ?_ ?_ | refine dF ?_ ?_) <;> intro hc)) <;> try simp only [*, wpx_of k25_0.eq_1, wpx_of k25_1.eq_1, wpx_of k25_2.eq_1, wpx_of k25_4.eq_1, wpx_of k25_5.eq_1, he', go_sem])
    all_goals exact hK

theorem law_ints_spec {m : List Int} (ho : H[o]? = some (.arr 1 (ints l) ro)) (hp : H[p]? = some (.arr 1 (ints m) rp)) (hl : l.length ≤ 100000) (hK : K (.bool (decide (l = m))) H) :
    ACalls Try.prog 41 [.slice o l.length 0 l.length fl, .slice p m.length 0 m.length fp] H K := by
  by_cases he : l.length = m.length
  · have he' : ((l.length : Int) = (m.length : Int)) = True := eq_true (by omega)
    have heh : Hid (l.length = m.length) := he
    clear he
    refine ACalls.into ok41 (Nat.le_of_ble_eq_true rfl) ?_; (try simp only [c41, wpx_of k41_0.eq_1, wpx_of k41_1.eq_1, wpx_of k41_2.eq_1, wpx_of k41_4.eq_1, wpx_of k41_5.eq_1, he', go_sem]); repeat' ((first
    | refine And.intro (Or.inr rfl) ?_
    | ((first | refine cB ?_ ?_ | refine gT ?_ ?_ | refine gF ?_ ?_ | refine dT ?_ ?_ | refine dF ?_ ?_) <;> intro hc)) <;> try simp only [*, wpx_of k41_0.eq_1, wpx_of k41_1.eq_1, wpx_of k41_2.eq_1, wpx_of k41_4.eq_1, wpx_of k41_5.eq_1, he', go_sem])
    refine ALoop.keep [5, 0, 1] ?_; simp only [List.map_cons, List.map_nil, go_sem]
    refine ALoop.cnt (fun k => l.take k = m.take k) l.length (by simp) fun k hk hI next => ?_
    refine ALoop.unfold ?_
    have he : l.length = m.length := heh
    have hw := wrap_succ (k := k) (by omega)
    by_cases hkl : k < l.length
    · have hg := ints_get hkl
      have hm : k < m.length := by omega
      have hg2 := ints_get hm
      have hI2 : Hid (l.take k = m.take k) := hI
      have e1 : l.getD k 0 = l[k] := by simp [List.getD, hkl]
      have e2 : m.getD k 0 = m[k] := by simp [List.getD, hm]
      clear hI he
      by_cases hx : l.getD k 0 = m.getD k 0
      · have hn : l.take (k + 1) = m.take (k + 1) := by
          rw [List.take_succ_eq_append_getElem hkl, List.take_succ_eq_append_getElem hm, ← e1, ← e2, hx, show l.take k = m.take k from hI2]
        have hxx := hx
        clear e1 e2
        (try simp only [wpx_of k41_0.eq_1, wpx_of k41_1.eq_1, wpx_of k41_2.eq_1, wpx_of k41_4.eq_1, wpx_of k41_5.eq_1, hg, hg2, hw, ho, hp, hkl, hm, hx, wpx_of b41_3.eq_1, nlt_iff, n0_le, go_sem]); repeat' ((first
    | refine And.intro (Or.inr rfl) ?_
    | ((first | refine cB ?_ ?_ | refine gT ?_ ?_ | refine gF ?_ ?_ | refine dT ?_ ?_ | refine dF ?_ ?_) <;> intro hc)) <;> try simp only [*, wpx_of k41_0.eq_1, wpx_of k41_1.eq_1, wpx_of k41_2.eq_1, wpx_of k41_4.eq_1, wpx_of k41_5.eq_1, hg, hg2, hw, ho, hp, hkl, hm, hx, wpx_of b41_3.eq_1, nlt_iff, n0_le, go_sem])
        (refine ALoop.keep [5, 0, 1] ?_; simp only [List.map_cons, List.map_nil, go_sem]; refine next hkl hn)
      · have hn : l ≠ m := by rintro rfl; exact hx rfl
        rw [decide_eq_false hn] at hK
        clear e1 e2
        (try simp only [wpx_of k41_0.eq_1, wpx_of k41_1.eq_1, wpx_of k41_2.eq_1, wpx_of k41_4.eq_1, wpx_of k41_5.eq_1, hg, hg2, hw, ho, hp, hkl, hm, hx, wpx_of b41_3.eq_1, nlt_iff, n0_le, go_sem]); repeat' ((first
    | refine And.intro (Or.inr rfl) ?_
    | ((first | refine cB ?_ ?_ | refine gT ?_ ?_ | refine gF ?_ ?_ | refine dT ?_ ?_ | refine dF ?_ ?_) <;> intro hc)) <;> try simp only [*, wpx_of k41_0.eq_1, wpx_of k41_1.eq_1, wpx_of k41_2.eq_1, wpx_of k41_4.eq_1, wpx_of k41_5.eq_1, hg, hg2, hw, ho, hp, hkl, hm, hx, wpx_of b41_3.eq_1, nlt_iff, n0_le, go_sem])
        all_goals exact hK
    · have hk : k = l.length := by omega
      subst hk
      have e : l = m := by rw [List.take_length, he, List.take_length] at hI; exact hI
      rw [decide_eq_true e] at hK
      clear e hI he
      (try simp only [wpx_of k41_0.eq_1, wpx_of k41_1.eq_1, wpx_of k41_2.eq_1, wpx_of k41_4.eq_1, wpx_of k41_5.eq_1, hw, hkl, wpx_of b41_3.eq_1, nlt_iff, n0_le, go_sem]); repeat' ((first
    | refine And.intro (Or.inr rfl) ?_
    | ((first | refine cB ?_ ?_ | refine gT ?_ ?_ | refine gF ?_ ?_ | refine dT ?_ ?_ | refine dF ?_ ?_) <;> intro hc)) <;> try simp only [*, wpx_of k41_0.eq_1, wpx_of k41_1.eq_1, wpx_of k41_2.eq_1, wpx_of k41_4.eq_1, wpx_of k41_5.eq_1, hw, hkl, wpx_of b41_3.eq_1, nlt_iff, n0_le, go_sem])
      all_goals exact hK
  · have he' : ((l.length : Int) = (m.length : Int)) = False := eq_false (by omega)
    have e : decide (l = m) = false := decide_eq_false fun h => he (by rw [h])
    rw [e] at hK
    refine ACalls.into ok41 (Nat.le_of_ble_eq_true rfl) ?_; (try simp only [c41, wpx_of k41_0.eq_1, wpx_of k41_1.eq_1, wpx_of k41_2.eq_1, wpx_of k41_4.eq_1, wpx_of k41_5.eq_1, he', go_sem]); repeat' ((first
    | refine And.intro (Or.inr rfl) ?_
    | ((first | refine cB ?_ ?_ | refine gT ?_ ?_ | refine gF ?_ ?_ | refine dT ?_ ?_ | refine dF ?_ ?_) <;> intro hc)) <;> try simp only [*, wpx_of k41_0.eq_1, wpx_of k41_1.eq_1, wpx_of k41_2.eq_1, wpx_of k41_4.eq_1, wpx_of k41_5.eq_1, he', go_sem])
    all_goals exact hK
end
end Go.Proofs.Ytfahkkefcdeohaa.Ax
