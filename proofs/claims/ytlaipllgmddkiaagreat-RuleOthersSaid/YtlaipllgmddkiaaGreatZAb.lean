/- Texts put behind one another: AxNames, AxFill, AxCst. Conditions: none. -/
import Derived.Test.YtlaipllgmddkiaaGreatAxStepZ
import Derived.Test.YtlaipllgmddkiaaGreatAxOpZ
set_option linter.all false
namespace Go.Ax
open Go Go.RowKit
def AArg.names : AArg → List Nat
 | .t n => [n]
 | .c _ => []
def optNames : Option AArg → List Nat
 | none => []
 | some a => a.names
def AOp.names : AOp → List Nat
 | .mv x => x.names
 | .pick c a b => c.names ++ a.names ++ b.names
 | .bin _ x y => x.names ++ y.names
 | .sbin _ x y => x.names ++ y.names
 | .eqb _ x y => x.names ++ y.names
 | .eqs _ _ x y => x.names ++ y.names
 | .isNil _ _ x => x.names
 | .un _ x => x.names
 | .fld _ x => x.names
 | .ld _ x => x.names
 | .st _ x y => x.names ++ y.names
 | .nck x => x.names
 | .ixa _ _ x i => x.names ++ i.names
 | .ixs _ x i => x.names ++ i.names
 | .ixstr x i => x.names ++ i.names
 | .ixagg _ _ _ x i => x.names ++ i.names
 | .part _ _ x => x.names
 | .len _ x => x.names
 | .ext x _ => x.names
 | .build _ ps => ps.flatMap fun p => p.2.2.names
 | .bsl _ _ _ ps => ps.flatMap fun p => p.2.names
 | .box x => x.names
 | .new _ => []
 | .mks _ _ _ l c => l.names ++ c.names
 | .app _ _ s x => s.names ++ x.names
 | .rng x => x.names
 | .nxt x => x.names
 | .sla _ x lo hi => x.names ++ optNames lo ++ optNames hi
 | .sls _ x lo hi mx => x.names ++ optNames lo ++ optNames hi ++ optNames mx
 | .sstr x lo hi => x.names ++ optNames lo ++ optNames hi
 | .mxn _ l => l.flatMap AArg.names
 | .cvt _ x => x.names
 | .i2s x => x.names
 | .b2s x => x.names
 | .s2b x => x.names
 | .call _ l => l.flatMap AArg.names
 | .callv x l => x.names ++ l.flatMap AArg.names
 | .mkf _ l => l.flatMap AArg.names
 | .mkm => []
 | .mlk _ x k => x.names ++ k.names
 | .mup x k v => x.names ++ k.names ++ v.names
 | .cpy _ d s => d.names ++ s.names
 | .born _ b => match b with
  | .new _ => []
  | .box x => x.names
  | .bsl _ _ _ ps => ps.flatMap fun p => p.2.names
  | .mks _ _ _ l c => l.names ++ c.names
  | .mkm => []
def Agree (T T' : List AVal) (l : List Nat) : Prop := ∀ t ∈ l, T.getD t .top = T'.getD t .top
theorem Agree.arg {T T' : List AVal} : ∀ {x : AArg}, Agree T T' x.names → aget T x = aget T' x
 | .t n, h => h n (by simp [AArg.names])
 | .c _, _ => rfl
theorem Agree.left {T T' : List AVal} {l r : List Nat} (h : Agree T T' (l ++ r)) : Agree T T' l := fun t ht => h t (by simp [ht])
theorem Agree.right {T T' : List AVal} {l r : List Nat} (h : Agree T T' (l ++ r)) : Agree T T' r := fun t ht => h t (by simp [ht])
theorem Agree.args {T T' : List AVal} : ∀ {l : List AArg}, Agree T T' (l.flatMap AArg.names) → l.map (aget T) = l.map (aget T')
 | [], _ => rfl
 | x :: l, h => by
  rw [List.flatMap_cons] at h
  rw [List.map_cons, List.map_cons, h.left.arg, Agree.args h.right]
theorem Agree.putParts {T T' : List AVal} : ∀ {ps : List (Nat × Nat × AArg)} (cells : List AVal), Agree T T' (ps.flatMap fun p => p.2.2.names) → putParts T cells ps = putParts T' cells ps
 | [], _, _ => rfl
 | (off, size, x) :: ps, cells, h => by
  rw [List.flatMap_cons] at h
  simp only [Ax.putParts, h.left.arg]
  split
  ·split
   ·exact Agree.putParts _ h.right
   ·rfl
  ·rfl
theorem Agree.putElems {T T' : List AVal} (size : Nat) : ∀ {ps : List (Nat × AArg)} (xs : List (List AVal)), Agree T T' (ps.flatMap fun p => p.2.names) → putElems T size xs ps = putElems T' size xs ps
 | [], _, _ => rfl
 | (i, x) :: ps, xs, h => by
  rw [List.flatMap_cons] at h
  simp only [Ax.putElems, h.left.arg]
  split
  ·split
   ·exact Agree.putElems size _ h.right
   ·rfl
  ·rfl
theorem Agree.aEnd {T T' : List AVal} {d : Nat} : ∀ {x : Option AArg}, Agree T T' (optNames x) → aEnd T d x = aEnd T' d x
 | none, _ => rfl
 | some x, h => by simp only [Ax.aEnd, Agree.arg (x := x) h]
theorem Agree.aMx {T T' : List AVal} (mx : Bool) : ∀ {l : List AArg} (v : AVal), Agree T T' (l.flatMap AArg.names) → aMx mx T v l = aMx mx T' v l
 | [], v, _ => by cases v <;> simp [Ax.aMx]
 | x :: l, v, h => by
  rw [List.flatMap_cons] at h
  cases v <;> simp only [Ax.aMx]
  rw [h.left.arg]
  split
  ·exact Agree.aMx mx _ h.right
  ·rfl
theorem aStep_congr {T T' : List AVal} {H : Heap} {op : AOp} (h : Agree T T' op.names) : aStep T H op = aStep T' H op := by
 cases op
 case len str x =>
  have h' : Agree T T' x.names := h
  cases str <;> simp only [aStep, h'.arg]
 case sls size x lo hi mx =>
  simp only [AOp.names] at h
  have e1 := h.left.left.left.arg
  have e2 := fun d => h.left.left.right.aEnd (d := d)
  have e3 := fun d => h.left.right.aEnd (d := d)
  simp only [aStep]
  rw [e1]
  cases mx with
  | none => simp only [e2, e3]
  | some y =>
   have e4 := fun d => Agree.aEnd (d := d) (x := some y) h.right
   simp only [e2, e3, e4]
 case mxn mx l =>
  simp only [AOp.names] at h
  simp only [aStep]
  cases l with
  | nil => rfl
  | cons x r =>
   rw [List.flatMap_cons] at h
   simp only [h.left.arg, Agree.aMx mx _ h.right]
 case sla n x lo hi =>
  simp only [AOp.names] at h
  have e1 := h.left.left.arg
  have e2 := fun d => h.left.right.aEnd (d := d)
  have e3 := fun d => h.right.aEnd (d := d)
  simp only [aStep, e1, e2, e3]
 case sstr x lo hi =>
  simp only [AOp.names] at h
  have e1 := h.left.left.arg
  have e2 := fun d => h.left.right.aEnd (d := d)
  have e3 := fun d => h.right.aEnd (d := d)
  simp only [aStep, e1, e2, e3]
 all_goals
  simp only [AOp.names] at h
  simp only [aStep] <;> first
  | rfl
  | rw [Agree.arg h]
  | rw [h.left.arg, h.right.arg]
  | rw [h.left.left.arg, h.left.right.arg, h.right.arg]
  | rw [Agree.putParts _ h]
  | rw [Agree.putElems _ _ h]
  | rw [Agree.args h]
theorem bornStep_congr {T T' : List AVal} {k j : Nat} {b : ABirth} (h : Agree T T' (AOp.born j b).names) : bornStep T k b = bornStep T' k b := by
 cases b <;> simp only [AOp.names] at h <;> simp only [bornStep]
 case box => rw [Agree.arg h]
 case bsl => rw [Agree.putElems _ _ h]
 case mks => rw [h.left.arg, h.right.arg]
def AOp.quiet : AOp → Bool
 | .st .. | .bsl .. | .box .. | .new .. | .mks .. | .app .. | .rng .. | .nxt .. | .call .. | .callv .. | .mkm | .mup .. | .cpy .. | .born .. | .b2s .. | .s2b .. => false
 | _ => true
def AOp.pure : AOp → Bool
 | .mv .. | .pick .. | .bin .. | .sbin .. | .eqb .. | .eqs .. | .isNil .. | .un .. | .fld .. | .nck .. | .ixa .. | .ixstr .. | .ixagg .. | .part .. | .len .. | .ext .. | .build .. | .sstr .. | .mxn .. | .cvt .. | .i2s .. | .mkf .. => true
 | _ => false
theorem pure_quiet {op : AOp} (h : op.pure = true) : op.quiet = true := by cases op <;> first | rfl | (simp [AOp.pure] at h)
theorem pure_eq {T : List AVal} {H H2 : Heap} {op : AOp} (hp : op.pure = true) : aStep T H2 op = (aStep T H op).map fun q => (q.1, H2) := by
 cases op
 case len str x => cases str <;> simp only [aStep] <;> (split <;> simp)
 all_goals simp only [AOp.pure, Bool.false_eq_true] at hp
 all_goals
  simp only [aStep]
  (repeat' split) <;> simp [Option.map_map, Function.comp_def]
theorem pure_step {T : List AVal} {H : Heap} {op : AOp} (hp : op.pure = true) {v : AVal} {H' : Heap} (h : aStep T H op = some (v, H')) (H2 : Heap) : aStep T H2 op = some (v, H2) := by
 rw [pure_eq (H := H) hp, h]; rfl
theorem get_fill {H : Heap} {k o : Nat} {x y : AObj} (hk : H[k]? = some .ghost) (ho : H[o]? = some y) (hy : y ≠ .ghost) : (H.set k x)[o]? = some y := by
 have : k ≠ o := fun e => by subst e; rw [hk] at ho; injection ho with ho; exact hy ho.symm
 rw [List.getElem?_set_ne this]; exact ho
theorem takeCells_fill {H : Heap} {k size : Nat} {x : AObj} (hk : H[k]? = some .ghost) {a : AVal} {ys : List (List AVal)} (h : takeCells H size a = some ys) : takeCells (H.set k x) size a = some ys := by
 unfold takeCells at h ⊢
 split at h
 ·split at h
  case h_2 => cases h
  rename_i ho
  simp only [get_fill hk ho (by simp)]; exact h
 ·split at h
  case h_2 => cases h
  rename_i ho
  simp only [get_fill hk ho (by simp)]; exact h
 ·split at h
  case h_2 => cases h
  rename_i ho
  simp only [get_fill hk ho (by simp)]; exact h
 ·exact h
 ·exact h
 ·cases h
theorem srcCells_fill {H : Heap} {k size : Nat} {x : AObj} (hk : H[k]? = some .ghost) {a : AVal} {ys : List (List AVal)} (h : srcCells H size a = some ys) : srcCells (H.set k x) size a = some ys := by
 unfold srcCells at h ⊢
 split at h
 ·cases h
 ·exact takeCells_fill hk h
end Go.Ax
namespace Go.Ax
open Go Go.RowKit
theorem quiet_heap {T : List AVal} {H H' : Heap} {op : AOp} {v : AVal} (hq : op.quiet = true) (h : aStep T H op = some (v, H')) : H' = H := by
 cases op
 case sls size x lo hi mx =>
  simp only [aStep] at h
  repeat' split at h
  all_goals first
   | (cases h; done)
   | (simp only [Option.some.injEq, Prod.mk.injEq] at h; exact h.2.symm)
 case len str x =>
  cases str <;> simp only [aStep] at h <;> (repeat' split at h) <;> first
   | (cases h; done)
   | (simp only [Option.some.injEq, Prod.mk.injEq] at h; exact h.2.symm)
 all_goals
  simp only [AOp.quiet, Bool.false_eq_true] at hq
 all_goals
  simp only [aStep] at h
  (repeat' split at h) <;> first
   | (cases h; done)
   | (simp only [Option.some.injEq, Prod.mk.injEq] at h; exact h.2.symm)
   | (simp only [Option.map_eq_some_iff, Prod.mk.injEq] at h; obtain ⟨_, _, _, h⟩ := h; exact h.symm)
section
variable {T : List AVal} {H H' : Heap} {v : AVal} {k : Nat} {x : AObj}
theorem push_fill (hk : H[k]? = some .ghost) (y : AObj) : H.set k x ++ [y] = (H ++ [y]).set k x ∧ (H ++ [y])[k]? = some .ghost := by
 have hl := (List.getElem?_eq_some_iff.1 hk).1
 exact ⟨(List.set_append_left _ _ hl).symm, by rw [List.getElem?_append_left hl]; exact hk⟩
theorem set_fill (hk : H[k]? = some .ghost) {o : Nat} {y : AObj} (ho : H[o]? = some y) (hy : y ≠ .ghost) (z : AObj) : (H.set k x).set o z = (H.set o z).set k x ∧ (H.set o z)[k]? = some .ghost := by
 have hko : k ≠ o := fun e => by subst e; rw [hk] at ho; injection ho with ho; exact hy ho.symm
 exact ⟨List.set_comm _ _ hko, by rw [List.getElem?_set_ne (Ne.symm hko)]; exact hk⟩
theorem aStep_fill {op : AOp} (hk : H[k]? = some .ghost) (h : aStep T H op = some (v, H')) : aStep T (H.set k x) op = some (v, H'.set k x) ∧ H'[k]? = some .ghost := by
 by_cases hp : op.pure = true
 ·have e := quiet_heap (pure_quiet hp) h
  subst e
  exact ⟨pure_step hp h _, hk⟩
 cases op <;> simp only [AOp.pure, not_true_eq_false] at hp
 case ld n y =>
  simp only [aStep] at h ⊢
  split at h
  case h_2 => cases h
  split at h
  case h_2 => cases h
  rename_i ho
  simp only [get_fill hk ho (by simp)]
  split at h
  case isFalse => cases h
  rename_i hl
  simp only [hl, if_true]
  split at h
  case h_2 => cases h
  rename_i hc
  try simp only [hc]
  split at h
  ·split at h
   case h_2 => cases h
   rename_i ha
   simp only [Option.some.injEq, Prod.mk.injEq] at h; obtain ⟨rfl, rfl⟩ := h
   exact ⟨by simp only [ha], hk⟩
  ·split at h
   case isFalse => cases h
   rename_i ha
   simp only [Option.some.injEq, Prod.mk.injEq] at h; obtain ⟨rfl, rfl⟩ := h
   exact ⟨by rw [if_pos ha], hk⟩
 case st size y z =>
  simp only [aStep] at h ⊢
  split at h
  case h_2 => cases h
  rename_i e1 e2
  try simp only [e2]
  split at h
  case h_2 => cases h
  rename_i ho
  simp only [get_fill hk ho (by simp)]
  split at h
  case isFalse => cases h
  rename_i hl
  simp only [hl, if_true]
  split at h
  case h_2 => cases h
  rename_i hc
  try simp only [hc]
  split at h
  case isFalse => cases h
  rename_i hj
  simp only [Option.some.injEq, Prod.mk.injEq] at h; obtain ⟨rfl, rfl⟩ := h
  obtain ⟨g1, g2⟩ := set_fill (x := x) hk ho (by simp) (.arr _ (List.set _ _ (putAt _ _ _)) false)
  exact ⟨by rw [if_pos hj, g1], g2⟩
 case ixs size y i =>
  simp only [aStep] at h ⊢
  split at h
  ·split at h
   case h_2 => cases h
   rename_i ho
   simp only [get_fill hk ho (by simp)]
   split at h
   case isFalse => cases h
   rename_i hl
   simp only [Option.some.injEq, Prod.mk.injEq] at h; obtain ⟨rfl, rfl⟩ := h
   exact ⟨by rw [if_pos hl], hk⟩
  ·split at h
   case h_2 => cases h
   rename_i ho
   simp only [get_fill hk ho (by simp)]
   split at h
   case isFalse => cases h
   rename_i hl
   simp only [Option.some.injEq, Prod.mk.injEq] at h; obtain ⟨rfl, rfl⟩ := h
   exact ⟨by rw [if_pos hl], hk⟩
  ·split at h
   case h_2 => cases h
   rename_i ho
   simp only [get_fill hk ho (by simp)]
   split at h
   case isFalse => cases h
   rename_i hl
   simp only [Option.some.injEq, Prod.mk.injEq] at h; obtain ⟨rfl, rfl⟩ := h
   exact ⟨by rw [if_pos hl], hk⟩
  ·cases h
 case bsl size n zero parts =>
  simp only [aStep, Option.map_eq_some_iff, Prod.mk.injEq] at h ⊢
  obtain ⟨xs, h1, rfl, rfl⟩ := h
  obtain ⟨g1, g2⟩ := push_fill (x := x) hk (.arr size xs false)
  exact ⟨⟨xs, h1, by rw [List.length_set], g1⟩, g2⟩
 case box y =>
  simp only [aStep, Option.map_eq_some_iff, Prod.mk.injEq] at h ⊢
  obtain ⟨l, h1, rfl, rfl⟩ := h
  obtain ⟨g1, g2⟩ := push_fill (x := x) hk (.arr l.length [l] false)
  exact ⟨⟨l, h1, by rw [List.length_set], g1⟩, g2⟩
 case new zero =>
  simp only [aStep, Option.some.injEq, Prod.mk.injEq] at h ⊢
  obtain ⟨rfl, rfl⟩ := h
  obtain ⟨g1, g2⟩ := push_fill (x := x) hk (.arr zero.length [zero] false)
  exact ⟨⟨by rw [List.length_set], g1⟩, g2⟩
 case mkm =>
  simp only [aStep, Option.some.injEq, Prod.mk.injEq] at h ⊢
  obtain ⟨rfl, rfl⟩ := h
  obtain ⟨g1, g2⟩ := push_fill (x := x) hk (.map [])
  exact ⟨⟨by rw [List.length_set], g1⟩, g2⟩
 case mks size bytes zero l c =>
  simp only [aStep] at h ⊢
  split at h
  case h_2 => cases h
  split at h
  case isFalse => cases h
  rename_i hc
  simp only [Option.some.injEq, Prod.mk.injEq] at h; obtain ⟨rfl, rfl⟩ := h
  obtain ⟨g1, g2⟩ := push_fill (x := x) hk (.arr size (List.replicate _ zero) false)
  exact ⟨by rw [if_pos hc, List.length_set, g1], g2⟩
 case app size bytes s y =>
  simp only [aStep] at h ⊢
  split at h
  case h_1 => cases h
  rename_i ys hy
  simp only [takeCells_fill hk hy]
  split at h
  ·split at h
   ·rename_i h0
    simp only [Option.some.injEq, Prod.mk.injEq] at h; obtain ⟨rfl, rfl⟩ := h
    exact ⟨by rw [if_pos h0], hk⟩
   ·rename_i h0
    split at h
    case isFalse => cases h
    rename_i h1
    simp only [Option.some.injEq, Prod.mk.injEq] at h; obtain ⟨rfl, rfl⟩ := h
    obtain ⟨g1, g2⟩ := push_fill (x := x) hk (.arr size ys false)
    exact ⟨by rw [if_neg h0, if_pos h1, List.length_set, g1], g2⟩
  ·split at h
   case h_2 => cases h
   rename_i ho
   simp only [get_fill hk ho (by simp)]
   split at h
   case isFalse => cases h
   rename_i hl
   simp only [Option.some.injEq, Prod.mk.injEq] at h; obtain ⟨rfl, rfl⟩ := h
   obtain ⟨g1, g2⟩ := set_fill (x := x) hk ho (by simp) (.arr size (_ ++ ys) false)
   exact ⟨by rw [if_pos hl, g1], g2⟩
  ·split at h
   case h_2 => cases h
   rename_i ho
   simp only [get_fill hk ho (by simp)]
   split at h
   case isFalse => cases h
   rename_i hl
   simp only [hl, and_self, if_true]
   split at h
   ·rename_i h0
    simp only [Option.some.injEq, Prod.mk.injEq] at h; obtain ⟨rfl, rfl⟩ := h
    exact ⟨by rw [if_pos h0], hk⟩
   ·rename_i h0
    rw [if_neg h0]
    split at h
    ·rename_i h1
     simp only [Option.some.injEq, Prod.mk.injEq] at h; obtain ⟨rfl, rfl⟩ := h
     obtain ⟨g1, g2⟩ := push_fill (x := x) hk (.arr size (List.take _ (List.drop _ _) ++ ys) false)
     exact ⟨by rw [if_pos h1, List.length_set, g1], g2⟩
    ·rename_i h1
     rw [if_neg h1]
     split at h
     case isFalse => cases h
     rename_i h2
     simp only [Option.some.injEq, Prod.mk.injEq] at h; obtain ⟨rfl, rfl⟩ := h
     obtain ⟨g1, g2⟩ := set_fill (x := x) hk ho (by simp) (.arr size (_ ++ ys) false)
     exact ⟨by rw [if_pos h2, g1], g2⟩
  ·cases h
 case rng y =>
  simp only [aStep] at h ⊢
  split at h
  case h_2 => cases h
  simp only [Option.some.injEq, Prod.mk.injEq] at h; obtain ⟨rfl, rfl⟩ := h
  obtain ⟨g1, g2⟩ := push_fill (x := x) hk (.iter _ 0)
  exact ⟨by rw [List.length_set, g1], g2⟩
 case nxt y =>
  simp only [aStep] at h ⊢
  split at h
  case h_2 => cases h
  split at h
  case h_2 => cases h
  rename_i ho
  simp only [get_fill hk ho (by simp)]
  split at h
  ·rename_i h1
   simp only [Option.some.injEq, Prod.mk.injEq] at h; obtain ⟨rfl, rfl⟩ := h
   obtain ⟨g1, g2⟩ := set_fill (x := x) hk ho (by simp) (.iter _ _)
   exact ⟨by rw [if_pos h1, g1], g2⟩
  ·rename_i h1
   simp only [Option.some.injEq, Prod.mk.injEq] at h; obtain ⟨rfl, rfl⟩ := h
   exact ⟨by rw [if_neg h1], hk⟩
 case sla n y lo hi =>
  simp only [aStep] at h ⊢
  split at h
  case h_2 => cases h
  split at h
  case h_2 => cases h
  rename_i ho
  simp only [get_fill hk ho (by simp)]
  split at h
  case isFalse => cases h
  rename_i hl
  simp only [Option.some.injEq, Prod.mk.injEq] at h; obtain ⟨rfl, rfl⟩ := h
  exact ⟨by rw [if_pos hl], hk⟩
 case sls size y lo hi mx =>
  have e := quiet_heap (op := .sls size y lo hi mx) rfl h
  subst e
  refine ⟨?_, hk⟩
  simp only [aStep] at h ⊢
  split at h
  ·split at h
   case h_2 => cases h
   rename_i ho _ _
   simp only [get_fill hk ho (by simp)]
   (repeat' split at h) <;> simp_all
  ·split at h
   case h_2 => cases h
   rename_i ho _ _
   simp only [get_fill hk ho (by simp)]
   (repeat' split at h) <;> first | (simp_all; done) | (simp_all; omega)
  ·(repeat' split at h) <;> simp_all
  ·(repeat' split at h) <;> simp_all
  ·cases h
 case mlk zero y q =>
  have e := quiet_heap (op := .mlk zero y q) rfl h
  subst e
  refine ⟨?_, hk⟩
  simp only [aStep] at h ⊢
  split at h
  case h_2 => cases h
  split at h
  ·split at h
   case h_2 => cases h
   rename_i ho
   simp only [get_fill hk ho (by simp)]
   (repeat' split at h) <;> simp_all
  ·simp_all
  ·cases h
 case mup y q z =>
  simp only [aStep] at h ⊢
  split at h
  case h_2 => cases h
  split at h
  case h_2 => cases h
  rename_i ho
  simp only [get_fill hk ho (by simp)]
  split at h
  case h_2 => cases h
  rename_i hm
  try simp only [hm]
  split at h
  case isFalse => cases h
  rename_i hc
  simp only [Option.some.injEq, Prod.mk.injEq] at h; obtain ⟨rfl, rfl⟩ := h
  obtain ⟨g1, g2⟩ := set_fill (x := x) hk ho (by simp) (.map (mput _ _ (aget T z) _))
  exact ⟨by rw [if_pos hc, g1], g2⟩
 case cpy size d s =>
  simp only [aStep] at h ⊢
  split at h
  case h_1 => cases h
  rename_i ys hy
  simp only [srcCells_fill hk hy]
  split at h
  ·split at h
   case h_2 => cases h
   rename_i ho
   simp only [get_fill hk ho (by simp)]
   split at h
   case isFalse => cases h
   rename_i hl
   simp only [hl, and_self, if_true]
   split at h
   case h_2 => cases h
   rename_i hx
   try simp only [hx]
   simp only [Option.some.injEq, Prod.mk.injEq] at h; obtain ⟨rfl, rfl⟩ := h
   obtain ⟨g1, g2⟩ := set_fill (x := x) hk ho (by simp) (.arr _ (List.set _ _ (putAt _ _ _)) false)
   exact ⟨by rw [g1], g2⟩
  ·split at h
   case h_2 => cases h
   rename_i ho
   simp only [get_fill hk ho (by simp)]
   split at h
   case isFalse => cases h
   rename_i hl
   simp only [Option.some.injEq, Prod.mk.injEq] at h; obtain ⟨rfl, rfl⟩ := h
   obtain ⟨g1, g2⟩ := set_fill (x := x) hk ho (by simp) (.arr _ (putRows _ _ _) false)
   exact ⟨by rw [if_pos hl, g1], g2⟩
  ·cases h
 all_goals (simp only [aStep] at h; cases h)
end
end Go.Ax
namespace Go.Ax
open Go Go.RowKit
def AArg.cst : AArg → Bool
 | .t _ => true
 | .c (.func _ []) => true
 | .c v => v.plain
def optCst : Option AArg → Bool
 | none => true
 | some a => a.cst
def ABirth.cst : ABirth → Bool
 | .new z => plains z
 | .box x => x.cst
 | .bsl _ _ z ps => plains z && ps.all fun p => p.2.cst
 | .mks _ _ z l c => plains z && l.cst && c.cst
 | .mkm => true
def AOp.cst : AOp → Bool
 | .mv x => x.cst
 | .pick c a b => c.cst && a.cst && b.cst
 | .bin _ x y => x.cst && y.cst
 | .sbin _ x y => x.cst && y.cst
 | .eqb _ x y => x.cst && y.cst
 | .eqs _ _ x y => x.cst && y.cst
 | .isNil _ _ x => x.cst
 | .un _ x => x.cst
 | .fld _ x => x.cst
 | .ld _ x => x.cst
 | .st _ x y => x.cst && y.cst
 | .nck x => x.cst
 | .ixa _ _ x i => x.cst && i.cst
 | .ixs _ x i => x.cst && i.cst
 | .ixstr x i => x.cst && i.cst
 | .ixagg _ _ _ x i => x.cst && i.cst
 | .part _ _ x => x.cst
 | .len _ x => x.cst
 | .ext x _ => x.cst
 | .build z ps => plains z && ps.all fun p => p.2.2.cst
 | .bsl _ _ z ps => plains z && ps.all fun p => p.2.cst
 | .box x => x.cst
 | .new z => plains z
 | .mks _ _ z l c => plains z && l.cst && c.cst
 | .app _ _ s x => s.cst && x.cst
 | .rng x => x.cst
 | .nxt x => x.cst
 | .sla _ x lo hi => x.cst && optCst lo && optCst hi
 | .sls _ x lo hi mx => x.cst && optCst lo && optCst hi && optCst mx
 | .sstr x lo hi => x.cst && optCst lo && optCst hi
 | .mxn _ l => l.all AArg.cst
 | .cvt _ x => x.cst
 | .i2s x => x.cst
 | .b2s x => x.cst
 | .s2b x => x.cst
 | .call _ l => l.all AArg.cst
 | .callv x l => x.cst && l.all AArg.cst
 | .mkf _ l => l.all AArg.cst
 | .mkm => true
 | .mlk z x k => z.plain && x.cst && k.cst
 | .mup x k v => x.cst && k.cst && v.cst
 | .cpy _ d s => d.cst && s.cst
 | .born _ b => b.cst
end Go.Ax
