/- A place that is kept free is filled: every operation does what it did. Conditions: none. -/
import Derived.Test.YtlaipllgmddkiaaGreatAxNamesZ
set_option linter.unusedSimpArgs false
set_option linter.unusedVariables false
set_option linter.defProp false
namespace Go.Ax
open Go Go.RowKit
theorem quiet_heap {T : List AVal} {H H' : Heap} {op : AOp} {v : AVal} (hq : op.quiet = true) (h : aStep T H op = some (v, H')) : H' = H := by
 cases op
 case sls size x lo hi mx =>
  simp only [aStep] at h
  repeat' split at h
  all_goals first
   | (cases h; done)
   | (simp only [Option.some.injEq, Prod.mk.injEq] at h; exact h.2.symm)
 case len str x =>
  cases str <;> simp only [aStep] at h <;> (repeat' split at h) <;> first
   | (cases h; done)
   | (simp only [Option.some.injEq, Prod.mk.injEq] at h; exact h.2.symm)
 all_goals
  simp only [AOp.quiet, Bool.false_eq_true] at hq
 all_goals
  simp only [aStep] at h
  (repeat' split at h) <;> first
   | (cases h; done)
   | (simp only [Option.some.injEq, Prod.mk.injEq] at h; exact h.2.symm)
   | (simp only [Option.map_eq_some_iff, Prod.mk.injEq] at h; obtain ⟨_, _, _, h⟩ := h; exact h.symm)
section
variable {T : List AVal} {H H' : Heap} {v : AVal} {k : Nat} {x : AObj}
theorem push_fill (hk : H[k]? = some .ghost) (y : AObj) : H.set k x ++ [y] = (H ++ [y]).set k x ∧ (H ++ [y])[k]? = some .ghost := by
 have hl := (List.getElem?_eq_some_iff.1 hk).1
 exact ⟨(List.set_append_left _ _ hl).symm, by rw [List.getElem?_append_left hl]; exact hk⟩
theorem set_fill (hk : H[k]? = some .ghost) {o : Nat} {y : AObj} (ho : H[o]? = some y) (hy : y ≠ .ghost) (z : AObj) : (H.set k x).set o z = (H.set o z).set k x ∧ (H.set o z)[k]? = some .ghost := by
 have hko : k ≠ o := fun e => by subst e; rw [hk] at ho; injection ho with ho; exact hy ho.symm
 exact ⟨List.set_comm _ _ hko, by rw [List.getElem?_set_ne (Ne.symm hko)]; exact hk⟩
theorem aStep_fill {op : AOp} (hk : H[k]? = some .ghost) (h : aStep T H op = some (v, H')) : aStep T (H.set k x) op = some (v, H'.set k x) ∧ H'[k]? = some .ghost := by
 by_cases hp : op.pure = true
 ·have e := quiet_heap (pure_quiet hp) h
  subst e
  exact ⟨pure_step hp h _, hk⟩
 cases op <;> simp only [AOp.pure, not_true_eq_false] at hp
 case ld n y =>
  simp only [aStep] at h ⊢
  split at h
  case h_2 => cases h
  split at h
  case h_2 => cases h
  rename_i ho
  simp only [get_fill hk ho (by simp)]
  split at h
  case isFalse => cases h
  rename_i hl
  simp only [hl, if_true]
  split at h
  case h_2 => cases h
  rename_i hc
  try simp only [hc]
  split at h
  ·split at h
   case h_2 => cases h
   rename_i ha
   simp only [Option.some.injEq, Prod.mk.injEq] at h; obtain ⟨rfl, rfl⟩ := h
   exact ⟨by simp only [ha], hk⟩
  ·split at h
   case isFalse => cases h
   rename_i ha
   simp only [Option.some.injEq, Prod.mk.injEq] at h; obtain ⟨rfl, rfl⟩ := h
   exact ⟨by rw [if_pos ha], hk⟩
 case st size y z =>
  simp only [aStep] at h ⊢
  split at h
  case h_2 => cases h
  rename_i e1 e2
  try simp only [e2]
  split at h
  case h_2 => cases h
  rename_i ho
  simp only [get_fill hk ho (by simp)]
  split at h
  case isFalse => cases h
  rename_i hl
  simp only [hl, if_true]
  split at h
  case h_2 => cases h
  rename_i hc
  try simp only [hc]
  split at h
  case isFalse => cases h
  rename_i hj
  simp only [Option.some.injEq, Prod.mk.injEq] at h; obtain ⟨rfl, rfl⟩ := h
  obtain ⟨g1, g2⟩ := set_fill (x := x) hk ho (by simp) (.arr _ (List.set _ _ (putAt _ _ _)) false)
  exact ⟨by rw [if_pos hj, g1], g2⟩
 case ixs size y i =>
  simp only [aStep] at h ⊢
  split at h
  ·split at h
   case h_2 => cases h
   rename_i ho
   simp only [get_fill hk ho (by simp)]
   split at h
   case isFalse => cases h
   rename_i hl
   simp only [Option.some.injEq, Prod.mk.injEq] at h; obtain ⟨rfl, rfl⟩ := h
   exact ⟨by rw [if_pos hl], hk⟩
  ·split at h
   case h_2 => cases h
   rename_i ho
   simp only [get_fill hk ho (by simp)]
   split at h
   case isFalse => cases h
   rename_i hl
   simp only [Option.some.injEq, Prod.mk.injEq] at h; obtain ⟨rfl, rfl⟩ := h
   exact ⟨by rw [if_pos hl], hk⟩
  ·split at h
   case h_2 => cases h
   rename_i ho
   simp only [get_fill hk ho (by simp)]
   split at h
   case isFalse => cases h
   rename_i hl
   simp only [Option.some.injEq, Prod.mk.injEq] at h; obtain ⟨rfl, rfl⟩ := h
   exact ⟨by rw [if_pos hl], hk⟩
  ·cases h
 case bsl size n zero parts =>
  simp only [aStep, Option.map_eq_some_iff, Prod.mk.injEq] at h ⊢
  obtain ⟨xs, h1, rfl, rfl⟩ := h
  obtain ⟨g1, g2⟩ := push_fill (x := x) hk (.arr size xs false)
  exact ⟨⟨xs, h1, by rw [List.length_set], g1⟩, g2⟩
 case box y =>
  simp only [aStep, Option.map_eq_some_iff, Prod.mk.injEq] at h ⊢
  obtain ⟨l, h1, rfl, rfl⟩ := h
  obtain ⟨g1, g2⟩ := push_fill (x := x) hk (.arr l.length [l] false)
  exact ⟨⟨l, h1, by rw [List.length_set], g1⟩, g2⟩
 case new zero =>
  simp only [aStep, Option.some.injEq, Prod.mk.injEq] at h ⊢
  obtain ⟨rfl, rfl⟩ := h
  obtain ⟨g1, g2⟩ := push_fill (x := x) hk (.arr zero.length [zero] false)
  exact ⟨⟨by rw [List.length_set], g1⟩, g2⟩
 case mkm =>
  simp only [aStep, Option.some.injEq, Prod.mk.injEq] at h ⊢
  obtain ⟨rfl, rfl⟩ := h
  obtain ⟨g1, g2⟩ := push_fill (x := x) hk (.map [])
  exact ⟨⟨by rw [List.length_set], g1⟩, g2⟩
 case mks size bytes zero l c =>
  simp only [aStep] at h ⊢
  split at h
  case h_2 => cases h
  split at h
  case isFalse => cases h
  rename_i hc
  simp only [Option.some.injEq, Prod.mk.injEq] at h; obtain ⟨rfl, rfl⟩ := h
  obtain ⟨g1, g2⟩ := push_fill (x := x) hk (.arr size (List.replicate _ zero) false)
  exact ⟨by rw [if_pos hc, List.length_set, g1], g2⟩
 case app size bytes s y =>
  simp only [aStep] at h ⊢
  split at h
  case h_1 => cases h
  rename_i ys hy
  simp only [takeCells_fill hk hy]
  split at h
  ·split at h
   ·rename_i h0
    simp only [Option.some.injEq, Prod.mk.injEq] at h; obtain ⟨rfl, rfl⟩ := h
    exact ⟨by rw [if_pos h0], hk⟩
   ·rename_i h0
    split at h
    case isFalse => cases h
    rename_i h1
    simp only [Option.some.injEq, Prod.mk.injEq] at h; obtain ⟨rfl, rfl⟩ := h
    obtain ⟨g1, g2⟩ := push_fill (x := x) hk (.arr size ys false)
    exact ⟨by rw [if_neg h0, if_pos h1, List.length_set, g1], g2⟩
  ·split at h
   case h_2 => cases h
   rename_i ho
   simp only [get_fill hk ho (by simp)]
   split at h
   case isFalse => cases h
   rename_i hl
   simp only [Option.some.injEq, Prod.mk.injEq] at h; obtain ⟨rfl, rfl⟩ := h
   obtain ⟨g1, g2⟩ := set_fill (x := x) hk ho (by simp) (.arr size (_ ++ ys) false)
   exact ⟨by rw [if_pos hl, g1], g2⟩
  ·split at h
   case h_2 => cases h
   rename_i ho
   simp only [get_fill hk ho (by simp)]
   split at h
   case isFalse => cases h
   rename_i hl
   simp only [hl, and_self, if_true]
   split at h
   ·rename_i h0
    simp only [Option.some.injEq, Prod.mk.injEq] at h; obtain ⟨rfl, rfl⟩ := h
    exact ⟨by rw [if_pos h0], hk⟩
   ·rename_i h0
    rw [if_neg h0]
    split at h
    ·rename_i h1
     simp only [Option.some.injEq, Prod.mk.injEq] at h; obtain ⟨rfl, rfl⟩ := h
     obtain ⟨g1, g2⟩ := push_fill (x := x) hk (.arr size (List.take _ (List.drop _ _) ++ ys) false)
     exact ⟨by rw [if_pos h1, List.length_set, g1], g2⟩
    ·rename_i h1
     rw [if_neg h1]
     split at h
     case isFalse => cases h
     rename_i h2
     simp only [Option.some.injEq, Prod.mk.injEq] at h; obtain ⟨rfl, rfl⟩ := h
     obtain ⟨g1, g2⟩ := set_fill (x := x) hk ho (by simp) (.arr size (_ ++ ys) false)
     exact ⟨by rw [if_pos h2, g1], g2⟩
  ·cases h
 case rng y =>
  simp only [aStep] at h ⊢
  split at h
  case h_2 => cases h
  simp only [Option.some.injEq, Prod.mk.injEq] at h; obtain ⟨rfl, rfl⟩ := h
  obtain ⟨g1, g2⟩ := push_fill (x := x) hk (.iter _ 0)
  exact ⟨by rw [List.length_set, g1], g2⟩
 case nxt y =>
  simp only [aStep] at h ⊢
  split at h
  case h_2 => cases h
  split at h
  case h_2 => cases h
  rename_i ho
  simp only [get_fill hk ho (by simp)]
  split at h
  ·rename_i h1
   simp only [Option.some.injEq, Prod.mk.injEq] at h; obtain ⟨rfl, rfl⟩ := h
   obtain ⟨g1, g2⟩ := set_fill (x := x) hk ho (by simp) (.iter _ _)
   exact ⟨by rw [if_pos h1, g1], g2⟩
  ·rename_i h1
   simp only [Option.some.injEq, Prod.mk.injEq] at h; obtain ⟨rfl, rfl⟩ := h
   exact ⟨by rw [if_neg h1], hk⟩
 case sla n y lo hi =>
  simp only [aStep] at h ⊢
  split at h
  case h_2 => cases h
  split at h
  case h_2 => cases h
  rename_i ho
  simp only [get_fill hk ho (by simp)]
  split at h
  case isFalse => cases h
  rename_i hl
  simp only [Option.some.injEq, Prod.mk.injEq] at h; obtain ⟨rfl, rfl⟩ := h
  exact ⟨by rw [if_pos hl], hk⟩
 case sls size y lo hi mx =>
  have e := quiet_heap (op := .sls size y lo hi mx) rfl h
  subst e
  refine ⟨?_, hk⟩
  simp only [aStep] at h ⊢
  split at h
  ·split at h
   case h_2 => cases h
   rename_i ho _ _
   simp only [get_fill hk ho (by simp)]
   (repeat' split at h) <;> simp_all
  ·split at h
   case h_2 => cases h
   rename_i ho _ _
   simp only [get_fill hk ho (by simp)]
   (repeat' split at h) <;> first | (simp_all; done) | (simp_all; omega)
  ·(repeat' split at h) <;> simp_all
  ·(repeat' split at h) <;> simp_all
  ·cases h
 case mlk zero y q =>
  have e := quiet_heap (op := .mlk zero y q) rfl h
  subst e
  refine ⟨?_, hk⟩
  simp only [aStep] at h ⊢
  split at h
  case h_2 => cases h
  split at h
  ·split at h
   case h_2 => cases h
   rename_i ho
   simp only [get_fill hk ho (by simp)]
   (repeat' split at h) <;> simp_all
  ·simp_all
  ·cases h
 case mup y q z =>
  simp only [aStep] at h ⊢
  split at h
  case h_2 => cases h
  split at h
  case h_2 => cases h
  rename_i ho
  simp only [get_fill hk ho (by simp)]
  split at h
  case h_2 => cases h
  rename_i hm
  try simp only [hm]
  split at h
  case isFalse => cases h
  rename_i hc
  simp only [Option.some.injEq, Prod.mk.injEq] at h; obtain ⟨rfl, rfl⟩ := h
  obtain ⟨g1, g2⟩ := set_fill (x := x) hk ho (by simp) (.map (mput _ _ (aget T z) _))
  exact ⟨by rw [if_pos hc, g1], g2⟩
 case cpy size d s =>
  simp only [aStep] at h ⊢
  split at h
  case h_1 => cases h
  rename_i ys hy
  simp only [srcCells_fill hk hy]
  split at h
  ·split at h
   case h_2 => cases h
   rename_i ho
   simp only [get_fill hk ho (by simp)]
   split at h
   case isFalse => cases h
   rename_i hl
   simp only [hl, and_self, if_true]
   split at h
   case h_2 => cases h
   rename_i hx
   try simp only [hx]
   simp only [Option.some.injEq, Prod.mk.injEq] at h; obtain ⟨rfl, rfl⟩ := h
   obtain ⟨g1, g2⟩ := set_fill (x := x) hk ho (by simp) (.arr _ (List.set _ _ (putAt _ _ _)) false)
   exact ⟨by rw [g1], g2⟩
  ·split at h
   case h_2 => cases h
   rename_i ho
   simp only [get_fill hk ho (by simp)]
   split at h
   case isFalse => cases h
   rename_i hl
   simp only [Option.some.injEq, Prod.mk.injEq] at h; obtain ⟨rfl, rfl⟩ := h
   obtain ⟨g1, g2⟩ := set_fill (x := x) hk ho (by simp) (.arr _ (putRows _ _ _) false)
   exact ⟨by rw [if_pos hl, g1], g2⟩
  ·cases h
 all_goals (simp only [aStep] at h; cases h)
end
end Go.Ax
