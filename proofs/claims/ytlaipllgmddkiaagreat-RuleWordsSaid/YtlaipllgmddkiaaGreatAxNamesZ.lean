/- What an operation looks at; it hangs on nothing else. Conditions: none. -/
import Derived.Test.YtlaipllgmddkiaaGreatAxStepZ
set_option linter.unusedSimpArgs false
set_option linter.unusedVariables false
set_option linter.defProp false
namespace Go.Ax
open Go Go.RowKit
def AArg.names : AArg → List Nat
 | .t n => [n]
 | .c _ => []
def optNames : Option AArg → List Nat
 | none => []
 | some a => a.names
def AOp.names : AOp → List Nat
 | .mv x => x.names
 | .pick c a b => c.names ++ a.names ++ b.names
 | .bin _ x y => x.names ++ y.names
 | .sbin _ x y => x.names ++ y.names
 | .eqb _ x y => x.names ++ y.names
 | .eqs _ _ x y => x.names ++ y.names
 | .isNil _ _ x => x.names
 | .un _ x => x.names
 | .fld _ x => x.names
 | .ld _ x => x.names
 | .st _ x y => x.names ++ y.names
 | .nck x => x.names
 | .ixa _ _ x i => x.names ++ i.names
 | .ixs _ x i => x.names ++ i.names
 | .ixstr x i => x.names ++ i.names
 | .ixagg _ _ _ x i => x.names ++ i.names
 | .part _ _ x => x.names
 | .len _ x => x.names
 | .ext x _ => x.names
 | .build _ ps => ps.flatMap fun p => p.2.2.names
 | .bsl _ _ _ ps => ps.flatMap fun p => p.2.names
 | .box x => x.names
 | .new _ => []
 | .mks _ _ _ l c => l.names ++ c.names
 | .app _ _ s x => s.names ++ x.names
 | .rng x => x.names
 | .nxt x => x.names
 | .sla _ x lo hi => x.names ++ optNames lo ++ optNames hi
 | .sls _ x lo hi mx => x.names ++ optNames lo ++ optNames hi ++ optNames mx
 | .sstr x lo hi => x.names ++ optNames lo ++ optNames hi
 | .mxn _ l => l.flatMap AArg.names
 | .cvt _ x => x.names
 | .i2s x => x.names
 | .b2s x => x.names
 | .s2b x => x.names
 | .call _ l => l.flatMap AArg.names
 | .callv x l => x.names ++ l.flatMap AArg.names
 | .mkf _ l => l.flatMap AArg.names
 | .mkm => []
 | .mlk _ x k => x.names ++ k.names
 | .mup x k v => x.names ++ k.names ++ v.names
 | .cpy _ d s => d.names ++ s.names
 | .born _ b => match b with
  | .new _ => []
  | .box x => x.names
  | .bsl _ _ _ ps => ps.flatMap fun p => p.2.names
  | .mks _ _ _ l c => l.names ++ c.names
  | .mkm => []
def Agree (T T' : List AVal) (l : List Nat) : Prop := ∀ t ∈ l, T.getD t .top = T'.getD t .top
theorem Agree.arg {T T' : List AVal} : ∀ {x : AArg}, Agree T T' x.names → aget T x = aget T' x
 | .t n, h => h n (by simp [AArg.names])
 | .c _, _ => rfl
theorem Agree.left {T T' : List AVal} {l r : List Nat} (h : Agree T T' (l ++ r)) : Agree T T' l := fun t ht => h t (by simp [ht])
theorem Agree.right {T T' : List AVal} {l r : List Nat} (h : Agree T T' (l ++ r)) : Agree T T' r := fun t ht => h t (by simp [ht])
theorem Agree.args {T T' : List AVal} : ∀ {l : List AArg}, Agree T T' (l.flatMap AArg.names) → l.map (aget T) = l.map (aget T')
 | [], _ => rfl
 | x :: l, h => by
  rw [List.flatMap_cons] at h
  rw [List.map_cons, List.map_cons, h.left.arg, Agree.args h.right]
theorem Agree.putParts {T T' : List AVal} : ∀ {ps : List (Nat × Nat × AArg)} (cells : List AVal), Agree T T' (ps.flatMap fun p => p.2.2.names) → putParts T cells ps = putParts T' cells ps
 | [], _, _ => rfl
 | (off, size, x) :: ps, cells, h => by
  rw [List.flatMap_cons] at h
  simp only [Ax.putParts, h.left.arg]
  split
  ·split
   ·exact Agree.putParts _ h.right
   ·rfl
  ·rfl
theorem Agree.putElems {T T' : List AVal} (size : Nat) : ∀ {ps : List (Nat × AArg)} (xs : List (List AVal)), Agree T T' (ps.flatMap fun p => p.2.names) → putElems T size xs ps = putElems T' size xs ps
 | [], _, _ => rfl
 | (i, x) :: ps, xs, h => by
  rw [List.flatMap_cons] at h
  simp only [Ax.putElems, h.left.arg]
  split
  ·split
   ·exact Agree.putElems size _ h.right
   ·rfl
  ·rfl
theorem Agree.aEnd {T T' : List AVal} {d : Nat} : ∀ {x : Option AArg}, Agree T T' (optNames x) → aEnd T d x = aEnd T' d x
 | none, _ => rfl
 | some x, h => by simp only [Ax.aEnd, Agree.arg (x := x) h]
theorem Agree.aMx {T T' : List AVal} (mx : Bool) : ∀ {l : List AArg} (v : AVal), Agree T T' (l.flatMap AArg.names) → aMx mx T v l = aMx mx T' v l
 | [], v, _ => by cases v <;> simp [Ax.aMx]
 | x :: l, v, h => by
  rw [List.flatMap_cons] at h
  cases v <;> simp only [Ax.aMx]
  rw [h.left.arg]
  split
  ·exact Agree.aMx mx _ h.right
  ·rfl
theorem aStep_congr {T T' : List AVal} {H : Heap} {op : AOp} (h : Agree T T' op.names) : aStep T H op = aStep T' H op := by
 cases op
 case len str x =>
  have h' : Agree T T' x.names := h
  cases str <;> simp only [aStep, h'.arg]
 case sls size x lo hi mx =>
  simp only [AOp.names] at h
  have e1 := h.left.left.left.arg
  have e2 := fun d => h.left.left.right.aEnd (d := d)
  have e3 := fun d => h.left.right.aEnd (d := d)
  simp only [aStep]
  rw [e1]
  cases mx with
  | none => simp only [e2, e3]
  | some y =>
   have e4 := fun d => Agree.aEnd (d := d) (x := some y) h.right
   simp only [e2, e3, e4]
 case mxn mx l =>
  simp only [AOp.names] at h
  simp only [aStep]
  cases l with
  | nil => rfl
  | cons x r =>
   rw [List.flatMap_cons] at h
   simp only [h.left.arg, Agree.aMx mx _ h.right]
 case sla n x lo hi =>
  simp only [AOp.names] at h
  have e1 := h.left.left.arg
  have e2 := fun d => h.left.right.aEnd (d := d)
  have e3 := fun d => h.right.aEnd (d := d)
  simp only [aStep, e1, e2, e3]
 case sstr x lo hi =>
  simp only [AOp.names] at h
  have e1 := h.left.left.arg
  have e2 := fun d => h.left.right.aEnd (d := d)
  have e3 := fun d => h.right.aEnd (d := d)
  simp only [aStep, e1, e2, e3]
 all_goals
  simp only [AOp.names] at h
  simp only [aStep] <;> first
  | rfl
  | rw [Agree.arg h]
  | rw [h.left.arg, h.right.arg]
  | rw [h.left.left.arg, h.left.right.arg, h.right.arg]
  | rw [Agree.putParts _ h]
  | rw [Agree.putElems _ _ h]
  | rw [Agree.args h]
theorem bornStep_congr {T T' : List AVal} {k j : Nat} {b : ABirth} (h : Agree T T' (AOp.born j b).names) : bornStep T k b = bornStep T' k b := by
 cases b <;> simp only [AOp.names] at h <;> simp only [bornStep]
 case box => rw [Agree.arg h]
 case bsl => rw [Agree.putElems _ _ h]
 case mks => rw [h.left.arg, h.right.arg]
def AOp.quiet : AOp → Bool
 | .st .. | .bsl .. | .box .. | .new .. | .mks .. | .app .. | .rng .. | .nxt .. | .call .. | .callv .. | .mkm | .mup .. | .cpy .. | .born .. | .b2s .. | .s2b .. => false
 | _ => true
def AOp.pure : AOp → Bool
 | .mv .. | .pick .. | .bin .. | .sbin .. | .eqb .. | .eqs .. | .isNil .. | .un .. | .fld .. | .nck .. | .ixa .. | .ixstr .. | .ixagg .. | .part .. | .len .. | .ext .. | .build .. | .sstr .. | .mxn .. | .cvt .. | .i2s .. | .mkf .. => true
 | _ => false
theorem pure_quiet {op : AOp} (h : op.pure = true) : op.quiet = true := by cases op <;> first | rfl | (simp [AOp.pure] at h)
theorem pure_eq {T : List AVal} {H H2 : Heap} {op : AOp} (hp : op.pure = true) : aStep T H2 op = (aStep T H op).map fun q => (q.1, H2) := by
 cases op
 case len str x => cases str <;> simp only [aStep] <;> (split <;> simp)
 all_goals simp only [AOp.pure, Bool.false_eq_true] at hp
 all_goals
  simp only [aStep]
  (repeat' split) <;> simp [Option.map_map, Function.comp_def]
theorem pure_step {T : List AVal} {H : Heap} {op : AOp} (hp : op.pure = true) {v : AVal} {H' : Heap} (h : aStep T H op = some (v, H')) (H2 : Heap) : aStep T H2 op = some (v, H2) := by
 rw [pure_eq (H := H) hp, h]; rfl
theorem get_fill {H : Heap} {k o : Nat} {x y : AObj} (hk : H[k]? = some .ghost) (ho : H[o]? = some y) (hy : y ≠ .ghost) : (H.set k x)[o]? = some y := by
 have : k ≠ o := fun e => by subst e; rw [hk] at ho; injection ho with ho; exact hy ho.symm
 rw [List.getElem?_set_ne this]; exact ho
theorem takeCells_fill {H : Heap} {k size : Nat} {x : AObj} (hk : H[k]? = some .ghost) {a : AVal} {ys : List (List AVal)} (h : takeCells H size a = some ys) : takeCells (H.set k x) size a = some ys := by
 unfold takeCells at h ⊢
 split at h
 ·split at h
  case h_2 => cases h
  rename_i ho
  simp only [get_fill hk ho (by simp)]; exact h
 ·split at h
  case h_2 => cases h
  rename_i ho
  simp only [get_fill hk ho (by simp)]; exact h
 ·split at h
  case h_2 => cases h
  rename_i ho
  simp only [get_fill hk ho (by simp)]; exact h
 ·exact h
 ·exact h
 ·cases h
theorem srcCells_fill {H : Heap} {k size : Nat} {x : AObj} (hk : H[k]? = some .ghost) {a : AVal} {ys : List (List AVal)} (h : srcCells H size a = some ys) : srcCells (H.set k x) size a = some ys := by
 unfold srcCells at h ⊢
 split at h
 ·cases h
 ·exact takeCells_fill hk h
end Go.Ax
