/- The values, the heap and the relation of an abstract machine of ours. Conditions: none. -/
import Derived.Calls
import Derived.Laws.World
import Derived.Below
set_option linter.unusedSimpArgs false
set_option linter.unusedVariables false
set_option linter.defProp false
namespace Go.Ax
open Go Go.RowKit
inductive AVal where
 | top
 | int (k : IntKind) (n : Int)
 | bool (b : Bool)
 | str (s : List UInt8)
 | lit (v : Value)
 | ptr (o n i j : Nat)
 | slice (o n st len : Nat) (full : Bool)
 | acc (o n : Nat)
 | isl (o n i j len : Nat)
 | map (o : Nat)
 | itr (o : Nat)
 | func (f : FuncId) (cap : List AVal)
 | iface (t : TypeId) (v : AVal)
 | agg (l : List AVal)
 | tup (l : List AVal)
 deriving Inhabited
def cellB : Value → Bool
 | .agg _ | .tuple _ => false
 | _ => true
def AVal.cell : AVal → Bool
 | .top | .agg _ | .tup _ => false
 | .lit v => cellB v
 | _ => true
inductive AObj where
 | arr (s : Nat) (xs : List (List AVal)) (ro : Bool)
 | map (es : List (AVal × AVal))
 | iter (s : List UInt8) (pos : Nat)
 | ghost
 deriving Inhabited
abbrev Heap := List AObj
structure Place where
 blk : Nat
 off : Nat
 room : Nat
abbrev Sig := Nat → Place
mutual
def VR (σ : Sig) (H : Heap) : AVal → Value → Prop
 | .top, _ => True
 | .int k n, v => v = .int k n
 | .bool b, v => v = .bool b
 | .str s, v => v = .string ⟨s.toArray⟩
 | .lit x, v => v = x
 | .ptr o n i j, v => ∃ s xs ro a, H[o]? = some (.arr s xs ro) ∧ n ≤ xs.length ∧ v = .pointer (some a) ∧
  (xs.length = n → a = ⟨(σ o).blk, (σ o).off + i * s + j, none⟩)
 | .slice o n st len full, v => ∃ s xs ro a cap, H[o]? = some (.arr s xs ro) ∧ n ≤ xs.length ∧ st + len ≤ n ∧ v = .slice a len cap ∧ len ≤ cap ∧ (full = true → cap = len) ∧ (a = none → cap = 0) ∧
  (xs.length = n → st + cap ≤ (σ o).room ∧ (cap ≠ 0 → a = some ⟨(σ o).blk, (σ o).off + st * s, none⟩))
 | .acc o n, v => ∃ s xs ro, H[o]? = some (.arr s xs ro) ∧ n ≤ xs.length ∧ (n = 0 → v = .slice none 0 0) ∧ (n ≠ 0 → ∃ a cap, v = .slice (some a) n cap ∧ n ≤ cap ∧
  (xs.length = n → cap ≤ (σ o).room ∧ a = ⟨(σ o).blk, (σ o).off, none⟩))
 | .isl o n i j len, v => ∃ s xs ro a cap, H[o]? = some (.arr s xs ro) ∧ n ≤ xs.length ∧ v = .slice (some a) len cap ∧ len ≤ cap ∧
  (xs.length = n → i < n ∧ j + cap ≤ s ∧ (cap ≠ 0 → a = ⟨(σ o).blk, (σ o).off + i * s + j, none⟩))
 | .map o, v => v = .map (some (σ o).blk) ∧ ∃ es, H[o]? = some (.map es)
 | .itr o, v => v = .pointer (some ⟨(σ o).blk, 0, none⟩) ∧ ∃ s p, H[o]? = some (.iter s p)
 | .func f cap, v => ∃ cs, v = .func (.func f) #[] cs ∧ VRs σ H cap cs.toList
 | .iface t x, v => ∃ y, v = .iface t y ∧ VR σ H x y
 | .agg l, v => l.all AVal.cell = true ∧ ∃ cs, v = .agg cs ∧ VRs σ H l cs.toList
 | .tup l, v => ∃ cs, v = .tuple cs ∧ VRs σ H l cs.toList
def VRs (σ : Sig) (H : Heap) : List AVal → List Value → Prop
 | [], [] => True
 | a :: l, v :: r => VR σ H a v ∧ VRs σ H l r
 | _, _ => False
end
section lists
variable {σ : Sig} {H : Heap}
@[simp] theorem VRs_nil : VRs σ H [] [] := by simp [VRs]
theorem VRs_cons {a : AVal} {v : Value} {l : List AVal} {r : List Value} : VRs σ H (a :: l) (v :: r) ↔ VR σ H a v ∧ VRs σ H l r := by simp [VRs]
theorem VRs.length : ∀ {l : List AVal} {r : List Value}, VRs σ H l r → l.length = r.length
 | [], [], _ => rfl
 | [], _ :: _, h => by simp [VRs] at h
 | _ :: _, [], h => by simp [VRs] at h
 | _ :: l, _ :: r, h => by simp [VRs] at h; simp [VRs.length h.2]
theorem VRs_iff : ∀ {l : List AVal} {r : List Value}, VRs σ H l r ↔ l.length = r.length ∧ ∀ i (h : i < l.length) (h' : i < r.length), VR σ H l[i] r[i]
 | [], [] => by simp
 | [], _ :: _ => by simp [VRs]
 | _ :: _, [] => by simp [VRs]
 | a :: l, v :: r => by
  rw [VRs_cons, VRs_iff (l := l) (r := r)]
  constructor
  ·rintro ⟨h0, hl, hi⟩
   refine ⟨by simp [hl], fun i h h' => ?_⟩
   cases i with
   | zero => exact h0
   | succ i => exact hi i (by simpa using h) (by simpa using h')
  ·rintro ⟨hl, hi⟩
   exact ⟨hi 0 (by simp) (by simp), by simpa using hl, fun i h h' => hi (i + 1) (by simpa using h) (by simpa using h')⟩
theorem VRs.get {l : List AVal} {r : List Value} (h : VRs σ H l r) {i : Nat} {a : AVal} (ha : l[i]? = some a) : ∃ v, r[i]? = some v ∧ VR σ H a v := by
 obtain ⟨hl, hi⟩ := VRs_iff.1 h
 obtain ⟨hlt, rfl⟩ := List.getElem?_eq_some_iff.1 ha
 have h' : i < r.length := by omega
 exact ⟨r[i], by simp [h'], hi i hlt h'⟩
theorem VRs.append {l l' : List AVal} {r r' : List Value} (h : VRs σ H l r) (h' : VRs σ H l' r') : VRs σ H (l ++ l') (r ++ r') := by
 induction l generalizing r with
 | nil => cases r <;> simp_all [VRs]
 | cons a l ih => cases r with
  | nil => simp [VRs] at h
  | cons v r => simp only [List.cons_append, VRs_cons] at *; exact ⟨h.1, ih h.2⟩
theorem VRs.take {l : List AVal} {r : List Value} (h : VRs σ H l r) (n : Nat) : VRs σ H (l.take n) (r.take n) := by
 induction l generalizing r n with
 | nil => cases r <;> simp_all [VRs]
 | cons a l ih => cases r with
  | nil => simp [VRs] at h
  | cons v r => cases n with
   | zero => simp
   | succ n => simp only [List.take_succ_cons, VRs_cons] at *; exact ⟨h.1, ih h.2 n⟩
theorem VRs.drop {l : List AVal} {r : List Value} (h : VRs σ H l r) (n : Nat) : VRs σ H (l.drop n) (r.drop n) := by
 induction l generalizing r n with
 | nil => cases r <;> simp_all [VRs]
 | cons a l ih => cases r with
  | nil => simp [VRs] at h
  | cons v r => cases n with
   | zero => simpa using h
   | succ n => simp only [List.drop_succ_cons]; exact ih (VRs_cons.1 h).2 n
theorem VRs.set {l : List AVal} {r : List Value} (h : VRs σ H l r) (i : Nat) {a : AVal} {v : Value} (hv : VR σ H a v) : VRs σ H (l.set i a) (r.set i v) := by
 induction l generalizing r i with
 | nil => cases r <;> simp_all [VRs]
 | cons b l ih => cases r with
  | nil => simp [VRs] at h
  | cons w r => cases i with
   | zero => simp only [List.set_cons_zero, VRs_cons] at *; exact ⟨hv, h.2⟩
   | succ i => simp only [List.set_cons_succ, VRs_cons] at *; exact ⟨h.1, ih h.2 i⟩
theorem VRs_replicate_top : ∀ (n : Nat) (r : List Value), r.length = n → VRs σ H (List.replicate n .top) r
 | 0, [], _ => by simp
 | n + 1, v :: r, h => by simp only [List.replicate_succ, VRs_cons]; exact ⟨by simp [VR], VRs_replicate_top n r (by simpa using h)⟩
 | 0, _ :: _, h => by simp at h
 | _ + 1, [], h => by simp at h
end lists
theorem VR.oneCell {σ : Sig} {H : Heap} {a : AVal} {v : Value} (h : VR σ H a v) (hc : a.cell = true) : cellB v = true := by
 cases a <;> simp only [VR, AVal.cell, Bool.false_eq_true] at h hc
 case int => subst h; rfl
 case bool => subst h; rfl
 case str => subst h; rfl
 case lit => subst h; exact hc
 case ptr => obtain ⟨_, _, _, _, _, _, rfl, _⟩ := h; rfl
 case slice => obtain ⟨_, _, _, _, _, _, _, _, rfl, _⟩ := h; rfl
 case acc o n =>
  obtain ⟨_, _, _, _, _, h0, h1⟩ := h
  by_cases hn : n = 0
  ·rw [h0 hn]; rfl
  ·obtain ⟨_, _, rfl, _⟩ := h1 hn; rfl
 case isl => obtain ⟨_, _, _, _, _, _, _, rfl, _⟩ := h; rfl
 case map => obtain ⟨rfl, _⟩ := h; rfl
 case itr => obtain ⟨rfl, _⟩ := h; rfl
 case func => obtain ⟨_, rfl, _⟩ := h; rfl
 case iface => obtain ⟨_, rfl, _⟩ := h; rfl
structure Kept (B : Nat → Prop) (w w' : World) : Prop where
 os : w'.os = w.os
 tape : w'.tape = w.tape
 output : w'.output = w.output
 size : w.heap.size ≤ w'.heap.size
 block : ∀ k, B k → w'.heap[k]? = w.heap[k]?
theorem Kept.refl (B : Nat → Prop) (w : World) : Kept B w w := ⟨rfl, rfl, rfl, Nat.le_refl _, fun _ _ => rfl⟩
theorem Kept.trans {B : Nat → Prop} {a b c : World} (h : Kept B a b) (k : Kept B b c) : Kept B a c :=
 ⟨k.os.trans h.os, k.tape.trans h.tape, k.output.trans h.output, Nat.le_trans h.size k.size, fun i hi => (k.block i hi).trans (h.block i hi)⟩
theorem Kept.mono {B B' : Nat → Prop} {w w' : World} (h : Kept B w w') (hB : ∀ k, B' k → B k) : Kept B' w w' := ⟨h.os, h.tape, h.output, h.size, fun k hk => h.block k (hB k hk)⟩
theorem Kept.drew {B : Nat → Prop} {a w : World} (h : Kept B a w) : Kept B a w.drew := ⟨h.os, h.tape, h.output, h.size, h.block⟩
theorem Kept.alloc {B : Nat → Prop} {a w : World} (h : Kept B a w) (hB : ∀ k, B k → k < w.heap.size) (o : Obj) : Kept B a (w.alloc o) :=
 h.trans ⟨rfl, rfl, rfl, by simp, fun k hk => Below.heap_alloc _ _ _ (hB k hk)⟩
theorem Kept.setCell {B : Nat → Prop} {a w : World} (h : Kept B a w) {p : Addr} (hp : ¬ B p.block) (u : Value) : Kept B a (w.setCell p u) :=
 h.trans ⟨rfl, rfl, rfl, by simp [World.setCell], fun k hk => Below.heap_setCell _ _ _ _ (fun e => hp (e ▸ hk))⟩
theorem Kept.below {B : Nat} {w w' : World} (h : Kept (· < B) w w') : Below B w w' := ⟨h.os, h.tape, h.output, h.size, h.block⟩
structure Grow (σ : Sig) (H : Heap) (σ' : Sig) (H' : Heap) : Prop where
 size : H.length ≤ H'.length
 arr : ∀ {o s xs ro}, H[o]? = some (.arr s xs ro) → ∃ xs', H'[o]? = some (.arr s xs' ro) ∧ xs.length ≤ xs'.length ∧ (xs.length = xs'.length → σ' o = σ o)
 map : ∀ {o es}, H[o]? = some (.map es) → (∃ es', H'[o]? = some (.map es')) ∧ σ' o = σ o
 iter : ∀ {o s p}, H[o]? = some (.iter s p) → (∃ s' p', H'[o]? = some (.iter s' p')) ∧ σ' o = σ o
theorem Grow.refl (σ : Sig) (H : Heap) : Grow σ H σ H := ⟨Nat.le_refl _, fun h => ⟨_, h, Nat.le_refl _, fun _ => rfl⟩, fun h => ⟨⟨_, h⟩, rfl⟩, fun h => ⟨⟨_, _, h⟩, rfl⟩⟩
theorem Grow.trans {σ σ1 σ2 : Sig} {H H1 H2 : Heap} (a : Grow σ H σ1 H1) (b : Grow σ1 H1 σ2 H2) : Grow σ H σ2 H2 := by
 refine ⟨Nat.le_trans a.size b.size, fun h => ?_, fun h => ?_, fun h => ?_⟩
 ·obtain ⟨x1, h1, l1, e1⟩ := a.arr h
  obtain ⟨x2, h2, l2, e2⟩ := b.arr h1
  exact ⟨x2, h2, Nat.le_trans l1 l2, fun e => by rw [e2 (by omega), e1 (by omega)]⟩
 ·obtain ⟨⟨e1, h1⟩, s1⟩ := a.map h
  obtain ⟨h2, s2⟩ := b.map h1
  exact ⟨h2, s2.trans s1⟩
 ·obtain ⟨⟨e1, p1, h1⟩, s1⟩ := a.iter h
  obtain ⟨h2, s2⟩ := b.iter h1
  exact ⟨h2, s2.trans s1⟩
structure Ext (σ : Sig) (H : Heap) (σ' : Sig) (H' : Heap) : Prop extends Grow σ H σ' H' where
 ghost : ∀ {o : Nat}, H[o]? = some .ghost → H'[o]? = some .ghost
 old : ∀ {o s : Nat} {xs : List (List AVal)}, H'[o]? = some (.arr s xs true) → (∃ xs0, H[o]? = some (.arr s xs0 true)) ∧ σ' o = σ o
theorem Ext.refl (σ : Sig) (H : Heap) : Ext σ H σ H := ⟨Grow.refl σ H, id, fun h => ⟨⟨_, h⟩, rfl⟩⟩
theorem Ext.trans {σ σ1 σ2 : Sig} {H H1 H2 : Heap} (a : Ext σ H σ1 H1) (b : Ext σ1 H1 σ2 H2) : Ext σ H σ2 H2 :=
 ⟨a.toGrow.trans b.toGrow, fun h => b.ghost (a.ghost h), fun h => let ⟨⟨_, h1⟩, e1⟩ := b.old h; let ⟨h2, e2⟩ := a.old h1; ⟨h2, e1.trans e2⟩⟩
def AObj.isNew : AObj → Bool
 | .arr _ _ false => true
 | .map _ => true
 | .iter _ _ => true
 | _ => false
mutual
theorem VR.grow {σ σ' : Sig} {H H' : Heap} (x : Grow σ H σ' H') : ∀ {a : AVal} {v : Value}, VR σ H a v → VR σ' H' a v
 | .top, _, _ => by simp [VR]
 | .int _ _, _, h => by simpa only [VR] using h
 | .bool _, _, h => by simpa only [VR] using h
 | .str _, _, h => by simpa only [VR] using h
 | .lit _, _, h => by simpa only [VR] using h
 | .ptr o n i j, v, h => by
  simp only [VR] at h ⊢
  obtain ⟨s, xs, ro, a, ho, hn, hv, ha⟩ := h
  obtain ⟨xs', ho', hl, he⟩ := x.arr ho
  refine ⟨s, xs', ro, a, ho', by omega, hv, fun e => ?_⟩
  rw [he (by omega)]; exact ha (by omega)
 | .slice o n st len full, v, h => by
  simp only [VR] at h ⊢
  obtain ⟨s, xs, ro, a, cap, ho, hn, hst, hv, hc, hf, hz, ha⟩ := h
  obtain ⟨xs', ho', hl, he⟩ := x.arr ho
  refine ⟨s, xs', ro, a, cap, ho', by omega, hst, hv, hc, hf, hz, fun e => ?_⟩
  rw [he (by omega)]; exact ha (by omega)
 | .acc o n, v, h => by
  simp only [VR] at h ⊢
  obtain ⟨s, xs, ro, ho, hn, h0, h1⟩ := h
  obtain ⟨xs', ho', hl, he⟩ := x.arr ho
  refine ⟨s, xs', ro, ho', by omega, h0, fun e => ?_⟩
  obtain ⟨a, cap, hv, hc, ha⟩ := h1 e
  refine ⟨a, cap, hv, hc, fun e => ?_⟩
  rw [he (by omega)]; exact ha (by omega)
 | .isl o n i j len, v, h => by
  simp only [VR] at h ⊢
  obtain ⟨s, xs, ro, a, cap, ho, hn, hv, hc, ha⟩ := h
  obtain ⟨xs', ho', hl, he⟩ := x.arr ho
  refine ⟨s, xs', ro, a, cap, ho', by omega, hv, hc, fun e => ?_⟩
  rw [he (by omega)]; exact ha (by omega)
 | .map o, v, h => by
  simp only [VR] at h ⊢
  obtain ⟨rfl, es, ho⟩ := h
  obtain ⟨h1, h2⟩ := x.map ho
  exact ⟨by rw [h2], h1⟩
 | .itr o, v, h => by
  simp only [VR] at h ⊢
  obtain ⟨rfl, s, p, ho⟩ := h
  obtain ⟨h1, h2⟩ := x.iter ho
  exact ⟨by rw [h2], h1⟩
 | .func f cap, v, h => by
  simp only [VR] at h ⊢
  obtain ⟨cs, rfl, hc⟩ := h
  exact ⟨cs, rfl, VRs.grow x hc⟩
 | .iface t y, v, h => by
  simp only [VR] at h ⊢
  obtain ⟨z, rfl, hc⟩ := h
  exact ⟨z, rfl, VR.grow x hc⟩
 | .agg l, v, h => by
  simp only [VR] at h ⊢
  obtain ⟨ha, cs, rfl, hc⟩ := h
  exact ⟨ha, cs, rfl, VRs.grow x hc⟩
 | .tup l, v, h => by
  simp only [VR] at h ⊢
  obtain ⟨cs, rfl, hc⟩ := h
  exact ⟨cs, rfl, VRs.grow x hc⟩
theorem VRs.grow {σ σ' : Sig} {H H' : Heap} (x : Grow σ H σ' H') : ∀ {l : List AVal} {r : List Value}, VRs σ H l r → VRs σ' H' l r
 | [], [], _ => by simp
 | [], _ :: _, h => by simp [VRs] at h
 | _ :: _, [], h => by simp [VRs] at h
 | a :: l, v :: r, h => by
  rw [VRs_cons] at h ⊢
  exact ⟨VR.grow x h.1, VRs.grow x h.2⟩
end
theorem VR.ext {σ σ' : Sig} {H H' : Heap} (x : Ext σ H σ' H') {a : AVal} {v : Value} (h : VR σ H a v) : VR σ' H' a v := VR.grow x.toGrow h
theorem VRs.ext {σ σ' : Sig} {H H' : Heap} (x : Ext σ H σ' H') {l : List AVal} {r : List Value} (h : VRs σ H l r) : VRs σ' H' l r := VRs.grow x.toGrow h
def RelO (σ : Sig) (H : Heap) (B : Nat → Prop) (w : World) (p : Place) : AObj → Prop
 | .arr s xs ro => (∀ x ∈ xs, x.length = s ∧ x.all AVal.cell = true) ∧ xs.length ≤ p.room ∧ (p.room = 0 ∨ ∃ c e fr, w.heap[p.blk]? = some (.cells c e fr) ∧
  (∀ i (x : List AVal) j a, xs[i]? = some x → x[j]? = some a → ∃ v, c[p.off + i * s + j]? = some v ∧ VR σ H a v) ∧
  (ro = false → ¬ B p.blk ∧ p.off = 0 ∧ fr = (0, 0) ∧ c.size = p.room * s) ∧ (ro = true → B p.blk))
 | .map es => ¬ B p.blk ∧ ∃ ms clock, w.heap[p.blk]? = some (.map ms clock) ∧ VRs σ H (es.map (·.1)) (ms.toList.map (·.key)) ∧ VRs σ H (es.map (·.2)) (ms.toList.map (·.val))
 | .iter s pos => ¬ B p.blk ∧ w.heap[p.blk]? = some (.stringIter ⟨s.toArray⟩ pos)
 | .ghost => True
def AObj.owns (p : Place) : AObj → Bool
 | .arr _ _ ro => !ro && p.room != 0
 | .ghost => false
 | _ => true
structure RelH (B : Nat → Prop) (σ : Sig) (H : Heap) (w : World) : Prop where
 obj : ∀ {o x}, H[o]? = some x → RelO σ H B w (σ o) x
 apart : ∀ {o o' x x'}, H[o]? = some x → H[o']? = some x' → x.owns (σ o) = true → x'.owns (σ o') = true → (σ o).blk = (σ o').blk → o = o'
 base : ∀ k, B k → k < w.heap.size
theorem RelH.fresh {B : Nat → Prop} {σ : Sig} {H : Heap} {w : World} (h : RelH B σ H w) : ¬ B w.heap.size := fun hb => Nat.lt_irrefl _ (h.base _ hb)
end Go.Ax
