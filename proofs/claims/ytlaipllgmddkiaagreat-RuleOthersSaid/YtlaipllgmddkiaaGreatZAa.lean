/- Texts put behind one another: AxVal, AxMem, AxWf. Conditions: none. -/
import Derived.Calls
import Derived.Laws.World
import Derived.Below
import Derived.Deep.MidRow
set_option linter.all false
namespace Go.Ax
open Go Go.RowKit
inductive AVal where
 | top
 | int (k : IntKind) (n : Int)
 | bool (b : Bool)
 | str (s : List UInt8)
 | lit (v : Value)
 | ptr (o n i j : Nat)
 | slice (o n st len : Nat) (full : Bool)
 | acc (o n : Nat)
 | isl (o n i j len : Nat)
 | map (o : Nat)
 | itr (o : Nat)
 | func (f : FuncId) (cap : List AVal)
 | iface (t : TypeId) (v : AVal)
 | agg (l : List AVal)
 | tup (l : List AVal)
 deriving Inhabited
def cellB : Value → Bool
 | .agg _ | .tuple _ => false
 | _ => true
def AVal.cell : AVal → Bool
 | .top | .agg _ | .tup _ => false
 | .lit v => cellB v
 | _ => true
inductive AObj where
 | arr (s : Nat) (xs : List (List AVal)) (ro : Bool)
 | map (es : List (AVal × AVal))
 | iter (s : List UInt8) (pos : Nat)
 | ghost
 deriving Inhabited
abbrev Heap := List AObj
structure Place where
 blk : Nat
 off : Nat
 room : Nat
abbrev Sig := Nat → Place
mutual
def VR (σ : Sig) (H : Heap) : AVal → Value → Prop
 | .top, _ => True
 | .int k n, v => v = .int k n
 | .bool b, v => v = .bool b
 | .str s, v => v = .string ⟨s.toArray⟩
 | .lit x, v => v = x
 | .ptr o n i j, v => ∃ s xs ro a, H[o]? = some (.arr s xs ro) ∧ n ≤ xs.length ∧ v = .pointer (some a) ∧
  (xs.length = n → a = ⟨(σ o).blk, (σ o).off + i * s + j, none⟩)
 | .slice o n st len full, v => ∃ s xs ro a cap, H[o]? = some (.arr s xs ro) ∧ n ≤ xs.length ∧ st + len ≤ n ∧ v = .slice a len cap ∧ len ≤ cap ∧ (full = true → cap = len) ∧ (a = none → cap = 0) ∧
  (xs.length = n → st + cap ≤ (σ o).room ∧ (cap ≠ 0 → a = some ⟨(σ o).blk, (σ o).off + st * s, none⟩))
 | .acc o n, v => ∃ s xs ro, H[o]? = some (.arr s xs ro) ∧ n ≤ xs.length ∧ (n = 0 → v = .slice none 0 0) ∧ (n ≠ 0 → ∃ a cap, v = .slice (some a) n cap ∧ n ≤ cap ∧
  (xs.length = n → cap ≤ (σ o).room ∧ a = ⟨(σ o).blk, (σ o).off, none⟩))
 | .isl o n i j len, v => ∃ s xs ro a cap, H[o]? = some (.arr s xs ro) ∧ n ≤ xs.length ∧ v = .slice (some a) len cap ∧ len ≤ cap ∧
  (xs.length = n → i < n ∧ j + cap ≤ s ∧ (cap ≠ 0 → a = ⟨(σ o).blk, (σ o).off + i * s + j, none⟩))
 | .map o, v => v = .map (some (σ o).blk) ∧ ∃ es, H[o]? = some (.map es)
 | .itr o, v => v = .pointer (some ⟨(σ o).blk, 0, none⟩) ∧ ∃ s p, H[o]? = some (.iter s p)
 | .func f cap, v => ∃ cs, v = .func (.func f) #[] cs ∧ VRs σ H cap cs.toList
 | .iface t x, v => ∃ y, v = .iface t y ∧ VR σ H x y
 | .agg l, v => l.all AVal.cell = true ∧ ∃ cs, v = .agg cs ∧ VRs σ H l cs.toList
 | .tup l, v => ∃ cs, v = .tuple cs ∧ VRs σ H l cs.toList
def VRs (σ : Sig) (H : Heap) : List AVal → List Value → Prop
 | [], [] => True
 | a :: l, v :: r => VR σ H a v ∧ VRs σ H l r
 | _, _ => False
end
section lists
variable {σ : Sig} {H : Heap}
@[simp] theorem VRs_nil : VRs σ H [] [] := by simp [VRs]
theorem VRs_cons {a : AVal} {v : Value} {l : List AVal} {r : List Value} : VRs σ H (a :: l) (v :: r) ↔ VR σ H a v ∧ VRs σ H l r := by simp [VRs]
theorem VRs.length : ∀ {l : List AVal} {r : List Value}, VRs σ H l r → l.length = r.length
 | [], [], _ => rfl
 | [], _ :: _, h => by simp [VRs] at h
 | _ :: _, [], h => by simp [VRs] at h
 | _ :: l, _ :: r, h => by simp [VRs] at h; simp [VRs.length h.2]
theorem VRs_iff : ∀ {l : List AVal} {r : List Value}, VRs σ H l r ↔ l.length = r.length ∧ ∀ i (h : i < l.length) (h' : i < r.length), VR σ H l[i] r[i]
 | [], [] => by simp
 | [], _ :: _ => by simp [VRs]
 | _ :: _, [] => by simp [VRs]
 | a :: l, v :: r => by
  rw [VRs_cons, VRs_iff (l := l) (r := r)]
  constructor
  ·rintro ⟨h0, hl, hi⟩
   refine ⟨by simp [hl], fun i h h' => ?_⟩
   cases i with
   | zero => exact h0
   | succ i => exact hi i (by simpa using h) (by simpa using h')
  ·rintro ⟨hl, hi⟩
   exact ⟨hi 0 (by simp) (by simp), by simpa using hl, fun i h h' => hi (i + 1) (by simpa using h) (by simpa using h')⟩
theorem VRs.get {l : List AVal} {r : List Value} (h : VRs σ H l r) {i : Nat} {a : AVal} (ha : l[i]? = some a) : ∃ v, r[i]? = some v ∧ VR σ H a v := by
 obtain ⟨hl, hi⟩ := VRs_iff.1 h
 obtain ⟨hlt, rfl⟩ := List.getElem?_eq_some_iff.1 ha
 have h' : i < r.length := by omega
 exact ⟨r[i], by simp [h'], hi i hlt h'⟩
theorem VRs.append {l l' : List AVal} {r r' : List Value} (h : VRs σ H l r) (h' : VRs σ H l' r') : VRs σ H (l ++ l') (r ++ r') := by
 induction l generalizing r with
 | nil => cases r <;> simp_all [VRs]
 | cons a l ih => cases r with
  | nil => simp [VRs] at h
  | cons v r => simp only [List.cons_append, VRs_cons] at *; exact ⟨h.1, ih h.2⟩
theorem VRs.take {l : List AVal} {r : List Value} (h : VRs σ H l r) (n : Nat) : VRs σ H (l.take n) (r.take n) := by
 induction l generalizing r n with
 | nil => cases r <;> simp_all [VRs]
 | cons a l ih => cases r with
  | nil => simp [VRs] at h
  | cons v r => cases n with
   | zero => simp
   | succ n => simp only [List.take_succ_cons, VRs_cons] at *; exact ⟨h.1, ih h.2 n⟩
theorem VRs.drop {l : List AVal} {r : List Value} (h : VRs σ H l r) (n : Nat) : VRs σ H (l.drop n) (r.drop n) := by
 induction l generalizing r n with
 | nil => cases r <;> simp_all [VRs]
 | cons a l ih => cases r with
  | nil => simp [VRs] at h
  | cons v r => cases n with
   | zero => simpa using h
   | succ n => simp only [List.drop_succ_cons]; exact ih (VRs_cons.1 h).2 n
theorem VRs.set {l : List AVal} {r : List Value} (h : VRs σ H l r) (i : Nat) {a : AVal} {v : Value} (hv : VR σ H a v) : VRs σ H (l.set i a) (r.set i v) := by
 induction l generalizing r i with
 | nil => cases r <;> simp_all [VRs]
 | cons b l ih => cases r with
  | nil => simp [VRs] at h
  | cons w r => cases i with
   | zero => simp only [List.set_cons_zero, VRs_cons] at *; exact ⟨hv, h.2⟩
   | succ i => simp only [List.set_cons_succ, VRs_cons] at *; exact ⟨h.1, ih h.2 i⟩
theorem VRs_replicate_top : ∀ (n : Nat) (r : List Value), r.length = n → VRs σ H (List.replicate n .top) r
 | 0, [], _ => by simp
 | n + 1, v :: r, h => by simp only [List.replicate_succ, VRs_cons]; exact ⟨by simp [VR], VRs_replicate_top n r (by simpa using h)⟩
 | 0, _ :: _, h => by simp at h
 | _ + 1, [], h => by simp at h
end lists
theorem VR.oneCell {σ : Sig} {H : Heap} {a : AVal} {v : Value} (h : VR σ H a v) (hc : a.cell = true) : cellB v = true := by
 cases a <;> simp only [VR, AVal.cell, Bool.false_eq_true] at h hc
 case int => subst h; rfl
 case bool => subst h; rfl
 case str => subst h; rfl
 case lit => subst h; exact hc
 case ptr => obtain ⟨_, _, _, _, _, _, rfl, _⟩ := h; rfl
 case slice => obtain ⟨_, _, _, _, _, _, _, _, rfl, _⟩ := h; rfl
 case acc o n =>
  obtain ⟨_, _, _, _, _, h0, h1⟩ := h
  by_cases hn : n = 0
  ·rw [h0 hn]; rfl
  ·obtain ⟨_, _, rfl, _⟩ := h1 hn; rfl
 case isl => obtain ⟨_, _, _, _, _, _, _, rfl, _⟩ := h; rfl
 case map => obtain ⟨rfl, _⟩ := h; rfl
 case itr => obtain ⟨rfl, _⟩ := h; rfl
 case func => obtain ⟨_, rfl, _⟩ := h; rfl
 case iface => obtain ⟨_, rfl, _⟩ := h; rfl
structure Kept (B : Nat → Prop) (w w' : World) : Prop where
 os : w'.os = w.os
 tape : w'.tape = w.tape
 output : w'.output = w.output
 size : w.heap.size ≤ w'.heap.size
 block : ∀ k, B k → w'.heap[k]? = w.heap[k]?
theorem Kept.refl (B : Nat → Prop) (w : World) : Kept B w w := ⟨rfl, rfl, rfl, Nat.le_refl _, fun _ _ => rfl⟩
theorem Kept.trans {B : Nat → Prop} {a b c : World} (h : Kept B a b) (k : Kept B b c) : Kept B a c :=
 ⟨k.os.trans h.os, k.tape.trans h.tape, k.output.trans h.output, Nat.le_trans h.size k.size, fun i hi => (k.block i hi).trans (h.block i hi)⟩
theorem Kept.mono {B B' : Nat → Prop} {w w' : World} (h : Kept B w w') (hB : ∀ k, B' k → B k) : Kept B' w w' := ⟨h.os, h.tape, h.output, h.size, fun k hk => h.block k (hB k hk)⟩
theorem Kept.drew {B : Nat → Prop} {a w : World} (h : Kept B a w) : Kept B a w.drew := ⟨h.os, h.tape, h.output, h.size, h.block⟩
theorem Kept.alloc {B : Nat → Prop} {a w : World} (h : Kept B a w) (hB : ∀ k, B k → k < w.heap.size) (o : Obj) : Kept B a (w.alloc o) :=
 h.trans ⟨rfl, rfl, rfl, by simp, fun k hk => Below.heap_alloc _ _ _ (hB k hk)⟩
theorem Kept.setCell {B : Nat → Prop} {a w : World} (h : Kept B a w) {p : Addr} (hp : ¬ B p.block) (u : Value) : Kept B a (w.setCell p u) :=
 h.trans ⟨rfl, rfl, rfl, by simp [World.setCell], fun k hk => Below.heap_setCell _ _ _ _ (fun e => hp (e ▸ hk))⟩
theorem Kept.below {B : Nat} {w w' : World} (h : Kept (· < B) w w') : Below B w w' := ⟨h.os, h.tape, h.output, h.size, h.block⟩
structure Grow (σ : Sig) (H : Heap) (σ' : Sig) (H' : Heap) : Prop where
 size : H.length ≤ H'.length
 arr : ∀ {o s xs ro}, H[o]? = some (.arr s xs ro) → ∃ xs', H'[o]? = some (.arr s xs' ro) ∧ xs.length ≤ xs'.length ∧ (xs.length = xs'.length → σ' o = σ o)
 map : ∀ {o es}, H[o]? = some (.map es) → (∃ es', H'[o]? = some (.map es')) ∧ σ' o = σ o
 iter : ∀ {o s p}, H[o]? = some (.iter s p) → (∃ s' p', H'[o]? = some (.iter s' p')) ∧ σ' o = σ o
theorem Grow.refl (σ : Sig) (H : Heap) : Grow σ H σ H := ⟨Nat.le_refl _, fun h => ⟨_, h, Nat.le_refl _, fun _ => rfl⟩, fun h => ⟨⟨_, h⟩, rfl⟩, fun h => ⟨⟨_, _, h⟩, rfl⟩⟩
theorem Grow.trans {σ σ1 σ2 : Sig} {H H1 H2 : Heap} (a : Grow σ H σ1 H1) (b : Grow σ1 H1 σ2 H2) : Grow σ H σ2 H2 := by
 refine ⟨Nat.le_trans a.size b.size, fun h => ?_, fun h => ?_, fun h => ?_⟩
 ·obtain ⟨x1, h1, l1, e1⟩ := a.arr h
  obtain ⟨x2, h2, l2, e2⟩ := b.arr h1
  exact ⟨x2, h2, Nat.le_trans l1 l2, fun e => by rw [e2 (by omega), e1 (by omega)]⟩
 ·obtain ⟨⟨e1, h1⟩, s1⟩ := a.map h
  obtain ⟨h2, s2⟩ := b.map h1
  exact ⟨h2, s2.trans s1⟩
 ·obtain ⟨⟨e1, p1, h1⟩, s1⟩ := a.iter h
  obtain ⟨h2, s2⟩ := b.iter h1
  exact ⟨h2, s2.trans s1⟩
structure Ext (σ : Sig) (H : Heap) (σ' : Sig) (H' : Heap) : Prop extends Grow σ H σ' H' where
 ghost : ∀ {o : Nat}, H[o]? = some .ghost → H'[o]? = some .ghost
 old : ∀ {o s : Nat} {xs : List (List AVal)}, H'[o]? = some (.arr s xs true) → (∃ xs0, H[o]? = some (.arr s xs0 true)) ∧ σ' o = σ o
theorem Ext.refl (σ : Sig) (H : Heap) : Ext σ H σ H := ⟨Grow.refl σ H, id, fun h => ⟨⟨_, h⟩, rfl⟩⟩
theorem Ext.trans {σ σ1 σ2 : Sig} {H H1 H2 : Heap} (a : Ext σ H σ1 H1) (b : Ext σ1 H1 σ2 H2) : Ext σ H σ2 H2 :=
 ⟨a.toGrow.trans b.toGrow, fun h => b.ghost (a.ghost h), fun h => let ⟨⟨_, h1⟩, e1⟩ := b.old h; let ⟨h2, e2⟩ := a.old h1; ⟨h2, e1.trans e2⟩⟩
def AObj.isNew : AObj → Bool
 | .arr _ _ false => true
 | .map _ => true
 | .iter _ _ => true
 | _ => false
mutual
theorem VR.grow {σ σ' : Sig} {H H' : Heap} (x : Grow σ H σ' H') : ∀ {a : AVal} {v : Value}, VR σ H a v → VR σ' H' a v
 | .top, _, _ => by simp [VR]
 | .int _ _, _, h => by simpa only [VR] using h
 | .bool _, _, h => by simpa only [VR] using h
 | .str _, _, h => by simpa only [VR] using h
 | .lit _, _, h => by simpa only [VR] using h
 | .ptr o n i j, v, h => by
  simp only [VR] at h ⊢
  obtain ⟨s, xs, ro, a, ho, hn, hv, ha⟩ := h
  obtain ⟨xs', ho', hl, he⟩ := x.arr ho
  refine ⟨s, xs', ro, a, ho', by omega, hv, fun e => ?_⟩
  rw [he (by omega)]; exact ha (by omega)
 | .slice o n st len full, v, h => by
  simp only [VR] at h ⊢
  obtain ⟨s, xs, ro, a, cap, ho, hn, hst, hv, hc, hf, hz, ha⟩ := h
  obtain ⟨xs', ho', hl, he⟩ := x.arr ho
  refine ⟨s, xs', ro, a, cap, ho', by omega, hst, hv, hc, hf, hz, fun e => ?_⟩
  rw [he (by omega)]; exact ha (by omega)
 | .acc o n, v, h => by
  simp only [VR] at h ⊢
  obtain ⟨s, xs, ro, ho, hn, h0, h1⟩ := h
  obtain ⟨xs', ho', hl, he⟩ := x.arr ho
  refine ⟨s, xs', ro, ho', by omega, h0, fun e => ?_⟩
  obtain ⟨a, cap, hv, hc, ha⟩ := h1 e
  refine ⟨a, cap, hv, hc, fun e => ?_⟩
  rw [he (by omega)]; exact ha (by omega)
 | .isl o n i j len, v, h => by
  simp only [VR] at h ⊢
  obtain ⟨s, xs, ro, a, cap, ho, hn, hv, hc, ha⟩ := h
  obtain ⟨xs', ho', hl, he⟩ := x.arr ho
  refine ⟨s, xs', ro, a, cap, ho', by omega, hv, hc, fun e => ?_⟩
  rw [he (by omega)]; exact ha (by omega)
 | .map o, v, h => by
  simp only [VR] at h ⊢
  obtain ⟨rfl, es, ho⟩ := h
  obtain ⟨h1, h2⟩ := x.map ho
  exact ⟨by rw [h2], h1⟩
 | .itr o, v, h => by
  simp only [VR] at h ⊢
  obtain ⟨rfl, s, p, ho⟩ := h
  obtain ⟨h1, h2⟩ := x.iter ho
  exact ⟨by rw [h2], h1⟩
 | .func f cap, v, h => by
  simp only [VR] at h ⊢
  obtain ⟨cs, rfl, hc⟩ := h
  exact ⟨cs, rfl, VRs.grow x hc⟩
 | .iface t y, v, h => by
  simp only [VR] at h ⊢
  obtain ⟨z, rfl, hc⟩ := h
  exact ⟨z, rfl, VR.grow x hc⟩
 | .agg l, v, h => by
  simp only [VR] at h ⊢
  obtain ⟨ha, cs, rfl, hc⟩ := h
  exact ⟨ha, cs, rfl, VRs.grow x hc⟩
 | .tup l, v, h => by
  simp only [VR] at h ⊢
  obtain ⟨cs, rfl, hc⟩ := h
  exact ⟨cs, rfl, VRs.grow x hc⟩
theorem VRs.grow {σ σ' : Sig} {H H' : Heap} (x : Grow σ H σ' H') : ∀ {l : List AVal} {r : List Value}, VRs σ H l r → VRs σ' H' l r
 | [], [], _ => by simp
 | [], _ :: _, h => by simp [VRs] at h
 | _ :: _, [], h => by simp [VRs] at h
 | a :: l, v :: r, h => by
  rw [VRs_cons] at h ⊢
  exact ⟨VR.grow x h.1, VRs.grow x h.2⟩
end
theorem VR.ext {σ σ' : Sig} {H H' : Heap} (x : Ext σ H σ' H') {a : AVal} {v : Value} (h : VR σ H a v) : VR σ' H' a v := VR.grow x.toGrow h
theorem VRs.ext {σ σ' : Sig} {H H' : Heap} (x : Ext σ H σ' H') {l : List AVal} {r : List Value} (h : VRs σ H l r) : VRs σ' H' l r := VRs.grow x.toGrow h
def RelO (σ : Sig) (H : Heap) (B : Nat → Prop) (w : World) (p : Place) : AObj → Prop
 | .arr s xs ro => (∀ x ∈ xs, x.length = s ∧ x.all AVal.cell = true) ∧ xs.length ≤ p.room ∧ (p.room = 0 ∨ ∃ c e fr, w.heap[p.blk]? = some (.cells c e fr) ∧
  (∀ i (x : List AVal) j a, xs[i]? = some x → x[j]? = some a → ∃ v, c[p.off + i * s + j]? = some v ∧ VR σ H a v) ∧
  (ro = false → ¬ B p.blk ∧ p.off = 0 ∧ fr = (0, 0) ∧ c.size = p.room * s) ∧ (ro = true → B p.blk))
 | .map es => ¬ B p.blk ∧ ∃ ms clock, w.heap[p.blk]? = some (.map ms clock) ∧ VRs σ H (es.map (·.1)) (ms.toList.map (·.key)) ∧ VRs σ H (es.map (·.2)) (ms.toList.map (·.val))
 | .iter s pos => ¬ B p.blk ∧ w.heap[p.blk]? = some (.stringIter ⟨s.toArray⟩ pos)
 | .ghost => True
def AObj.owns (p : Place) : AObj → Bool
 | .arr _ _ ro => !ro && p.room != 0
 | .ghost => false
 | _ => true
structure RelH (B : Nat → Prop) (σ : Sig) (H : Heap) (w : World) : Prop where
 obj : ∀ {o x}, H[o]? = some x → RelO σ H B w (σ o) x
 apart : ∀ {o o' x x'}, H[o]? = some x → H[o']? = some x' → x.owns (σ o) = true → x'.owns (σ o') = true → (σ o).blk = (σ o').blk → o = o'
 base : ∀ k, B k → k < w.heap.size
theorem RelH.fresh {B : Nat → Prop} {σ : Sig} {H : Heap} {w : World} (h : RelH B σ H w) : ¬ B w.heap.size := fun hb => Nat.lt_irrefl _ (h.base _ hb)
end Go.Ax
namespace Go.Ax
open Go Go.RowKit
def Alike (H H' : Heap) : Prop := H.length = H'.length ∧ ∀ o : Nat, match (H[o]? : Option AObj), (H'[o]? : Option AObj) with
 | some (.arr s xs ro), some (.arr s' xs' ro') => s = s' ∧ ro = ro' ∧ xs.length = xs'.length
 | some (.map _), some (.map _) => True
 | some (.iter _ _), some (.iter _ _) => True
 | some .ghost, some .ghost => True
 | none, none => True
 | _, _ => False
theorem Alike.ext {H H' : Heap} (h : Alike H H') (σ : Sig) : Ext σ H σ H' := by
 obtain ⟨hl, hk⟩ := h
 refine ⟨⟨Nat.le_of_eq hl, fun {o s xs ro} ho => ?_, fun {o es} ho => ?_, fun {o s p} ho => ?_⟩, fun {o} ho => ?_, fun {o s xs} ho => ?_⟩
 ·have := hk o; rw [ho] at this
  cases hh : H'[o]? with
  | none => simp [hh] at this
  | some x => cases x with
   | arr s' xs' ro' => simp only [hh] at this; obtain ⟨rfl, rfl, hx⟩ := this; exact ⟨xs', rfl, Nat.le_of_eq hx, fun _ => rfl⟩
   | map => simp [hh] at this
   | iter => simp [hh] at this
   | ghost => simp [hh] at this
 ·have := hk o; rw [ho] at this
  cases hh : H'[o]? with
  | none => simp [hh] at this
  | some x => cases x with
   | arr => simp [hh] at this
   | map es' => exact ⟨⟨es', rfl⟩, rfl⟩
   | iter => simp [hh] at this
   | ghost => simp [hh] at this
 ·have := hk o; rw [ho] at this
  cases hh : H'[o]? with
  | none => simp [hh] at this
  | some x => cases x with
   | arr => simp [hh] at this
   | map => simp [hh] at this
   | iter s p => exact ⟨⟨s, p, rfl⟩, rfl⟩
   | ghost => simp [hh] at this
 ·have := hk o; rw [ho] at this
  cases hh : H'[o]? with
  | none => simp [hh] at this
  | some x => cases x with
   | ghost => rfl
   | arr => simp [hh] at this
   | map => simp [hh] at this
   | iter => simp [hh] at this
 ·have := hk o; rw [ho] at this
  cases hh : H[o]? with
  | none => simp [hh] at this
  | some x => cases x with
   | arr s' xs' ro' => simp only [hh] at this; obtain ⟨rfl, rfl, hx⟩ := this; exact ⟨⟨xs', rfl⟩, rfl⟩
   | map => simp [hh] at this
   | iter => simp [hh] at this
   | ghost => simp [hh] at this
theorem Alike.symm {H H' : Heap} (h : Alike H H') : Alike H' H := by
 refine ⟨h.1.symm, fun o => ?_⟩
 have := h.2 o
 revert this
 cases H[o]? with
 | none => cases H'[o]? <;> simp
 | some x => cases H'[o]? with
  | none => cases x <;> simp
  | some y => cases x <;> cases y <;> simp <;> (try (rintro rfl rfl h3; exact ⟨rfl, rfl, h3.symm⟩))
theorem Alike.set_arr {H : Heap} {o s : Nat} {xs xs' : List (List AVal)} {ro : Bool} (ho : H[o]? = some (.arr s xs ro)) (hl : xs.length = xs'.length) : Alike H (H.set o (.arr s xs' ro)) := by
 refine ⟨by simp, fun p => ?_⟩
 by_cases hp : o = p
 ·subst hp
  have : o < H.length := (List.getElem?_eq_some_iff.1 ho).1
  rw [ho, List.getElem?_set_self this]
  exact ⟨rfl, rfl, hl⟩
 ·rw [List.getElem?_set_ne hp]
  cases H[p]? with
  | none => trivial
  | some x => cases x <;> simp
theorem RelO.grow {σ σ' : Sig} {H H' : Heap} (x : Grow σ H σ' H') {B : Nat → Prop} {w w' : World} {p : Place} {ob : AObj} (h : RelO σ H B w p ob) (hw : w'.heap[p.blk]? = w.heap[p.blk]?) : RelO σ' H' B w' p ob := by
 cases ob with
 | arr s xs ro =>
  obtain ⟨h1, h2, h3⟩ := h
  refine ⟨h1, h2, h3.imp id ?_⟩
  rintro ⟨c, e, fr, hb, hc, hn, hr⟩
  exact ⟨c, e, fr, hw.trans hb, fun i x' j a hi hj => let ⟨v, hv, hr⟩ := hc i x' j a hi hj; ⟨v, hv, hr.grow x⟩, hn, hr⟩
 | map es =>
  obtain ⟨h1, ms, clock, hb, hk, hv⟩ := h
  exact ⟨h1, ms, clock, hw.trans hb, hk.grow x, hv.grow x⟩
 | iter s pos => exact ⟨h.1, hw.trans h.2⟩
 | ghost => trivial
theorem RelO.ext {σ σ' : Sig} {H H' : Heap} (x : Ext σ H σ' H') {B : Nat → Prop} {w w' : World} {p : Place} {ob : AObj} (h : RelO σ H B w p ob) (hw : w'.heap[p.blk]? = w.heap[p.blk]?) : RelO σ' H' B w' p ob := RelO.grow x.toGrow h hw
theorem RelH.heap {B : Nat → Prop} {σ : Sig} {H : Heap} {w w' : World} (h : RelH B σ H w) (hw : w'.heap = w.heap) : RelH B σ H w' :=
 ⟨fun ho => (h.obj ho).ext (Ext.refl _ _) (by rw [hw]), h.apart, by rw [hw]; exact h.base⟩
theorem RelH.drew {B : Nat → Prop} {σ : Sig} {H : Heap} {w : World} (h : RelH B σ H w) : RelH B σ H w.drew := h.heap rfl
theorem RelH.read {B : Nat → Prop} {σ : Sig} {H : Heap} {w : World} (h : RelH B σ H w) {o s : Nat} {xs : List (List AVal)} {ro : Bool} (ho : H[o]? = some (.arr s xs ro))
 {i : Nat} {x : List AVal} (hi : xs[i]? = some x) (j k : Nat) (hjk : j + k ≤ x.length) :
 ∃ cs : List Value, cs.length = k ∧ w.rangeAt (σ o).blk ((σ o).off + i * s + j) cs ∧ VRs σ H ((x.drop j).take k) cs := by
 obtain ⟨h1, h2, h3⟩ := h.obj ho
 have hlt : i < xs.length := (List.getElem?_eq_some_iff.1 hi).1
 have hroom : (σ o).room ≠ 0 := by omega
 obtain ⟨c, e, fr, hb, hc, -, -⟩ := h3.resolve_left hroom
 have key : ∀ m, m < k → ∃ v, c[(σ o).off + i * s + (j + m)]? = some v ∧ ∃ a, x[j + m]? = some a ∧ VR σ H a v := by
  intro m hm
  obtain ⟨v, hv, hr⟩ := hc i x (j + m) x[j + m] hi (by simp)
  exact ⟨v, hv, _, by simp, hr⟩
 refine ⟨(List.range k).map fun m => (c[(σ o).off + i * s + (j + m)]?).getD undef, by simp, ?_, ?_⟩
 ·intro m v hv
  simp only [List.getElem?_map, Option.map_eq_some_iff] at hv
  obtain ⟨m', hm', rfl⟩ := hv
  obtain ⟨hm1, rfl⟩ := List.getElem?_eq_some_iff.1 hm'
  simp only [List.length_range] at hm1
  simp only [List.getElem_range]
  obtain ⟨v, hv, -⟩ := key m hm1
  rw [cell_of_row w _ _ c e fr hb, show (σ o).off + i * s + j + m = (σ o).off + i * s + (j + m) by omega, hv]
  rfl
 ·rw [VRs_iff]
  refine ⟨by simp; omega, fun m hm hm' => ?_⟩
  have hmk : m < k := by simpa using hm'
  obtain ⟨v, hv, a, ha, hr⟩ := key m hmk
  simp only [List.getElem_take, List.getElem_drop, List.getElem_map, List.getElem_range, hv, Option.getD_some]
  obtain ⟨_, rfl⟩ := List.getElem?_eq_some_iff.1 ha
  exact hr
theorem RelH.read1 {B : Nat → Prop} {σ : Sig} {H : Heap} {w : World} (h : RelH B σ H w) {o s : Nat} {xs : List (List AVal)} {ro : Bool} (ho : H[o]? = some (.arr s xs ro))
 {i : Nat} {x : List AVal} (hi : xs[i]? = some x) {j : Nat} {a : AVal} (hj : x[j]? = some a) :
 ∃ v, w.cell? ⟨(σ o).blk, (σ o).off + i * s + j, none⟩ = some v ∧ VR σ H a v := by
 obtain ⟨h1, h2, h3⟩ := h.obj ho
 have hlt : i < xs.length := (List.getElem?_eq_some_iff.1 hi).1
 obtain ⟨c, e, fr, hb, hc, -, -⟩ := h3.resolve_left (by omega)
 obtain ⟨v, hv, hr⟩ := hc i x j a hi hj
 exact ⟨v, by rw [cell_of_row w _ _ c e fr hb, hv], hr⟩
theorem idx_ne {s i j i' j' : Nat} (hj : j < s) (hj' : j' < s) (h : i * s + j = i' * s + j') : i = i' ∧ j = j' := by
 have h1 : (i * s + j) / s = i := by rw [Nat.mul_comm, Nat.mul_add_div (by omega)]; simp [Nat.div_eq_of_lt hj]
 have h2 : (i' * s + j') / s = i' := by rw [Nat.mul_comm, Nat.mul_add_div (by omega)]; simp [Nat.div_eq_of_lt hj']
 have e : i = i' := by rw [← h1, h, h2]
 subst e
 exact ⟨rfl, by omega⟩
theorem RelH.write1 {B : Nat → Prop} {σ : Sig} {H : Heap} {w : World} (h : RelH B σ H w) {o s : Nat} {xs : List (List AVal)} (ho : H[o]? = some (.arr s xs false))
 {i : Nat} {x : List AVal} (hi : xs[i]? = some x) {j : Nat} (hj : j < s) {a : AVal} {v : Value} (ha : VR σ H a v) (hc : a.cell = true) :
 RelH B σ (H.set o (.arr s (xs.set i (x.set j a)) false)) (w.setCell ⟨(σ o).blk, i * s + j, none⟩ v) := by
 have hal : Alike H (H.set o (.arr s (xs.set i (x.set j a)) false)) := Alike.set_arr ho (by simp)
 have hx := hal.ext σ
 have hlt : i < xs.length := (List.getElem?_eq_some_iff.1 hi).1
 have holt : o < H.length := (List.getElem?_eq_some_iff.1 ho).1
 obtain ⟨h1, h2, h3⟩ := h.obj ho
 obtain ⟨c, e, fr, hb, hcs, hown, -⟩ := h3.resolve_left (by omega)
 obtain ⟨hB, hoff, hfr, hsz⟩ := hown rfl
 have hxm : x ∈ xs := List.mem_of_getElem? hi
 refine ⟨?_, ?_, fun k hk => by rw [World.size_setCell]; exact h.base k hk⟩
 ·intro p y hp
  by_cases hop : o = p
  ·subst hop
   rw [List.getElem?_set_self holt] at hp
   injection hp with hp; subst hp
   refine ⟨?_, by simpa using h2, .inr ⟨c.setIfInBounds (i * s + j) v, e, fr, ?_, ?_, fun _ => ⟨hB, hoff, hfr, by simpa using hsz⟩, fun hh => by cases hh⟩⟩
   ·intro y hy
    rcases List.mem_or_eq_of_mem_set hy with hy | rfl
    ·exact h1 y hy
    ·obtain ⟨hl, hall⟩ := h1 x hxm
     refine ⟨by simpa using hl, ?_⟩
     rw [List.all_eq_true] at hall ⊢
     intro b hb
     rcases List.mem_or_eq_of_mem_set hb with hb | rfl
     ·exact hall b hb
     ·exact hc
   ·simp [World.setCell, Array.getElem?_modify, hb]
   ·intro i' x' j' a' hi' hj'
    rw [hoff, Nat.zero_add]
    by_cases hii : i = i'
    ·subst hii
     rw [List.getElem?_set_self hlt] at hi'
     injection hi' with hi'; subst hi'
     have hj's : j' < s := by have := (List.getElem?_eq_some_iff.1 hj').1; have hl := (h1 x hxm).1; simp at this; omega
     by_cases hjj : j = j'
     ·subst hjj
      rw [List.getElem?_set_self (by have hl := (h1 x hxm).1; omega)] at hj'
      injection hj' with hj'; subst hj'
      refine ⟨v, ?_, ha.ext hx⟩
      rw [Array.getElem?_setIfInBounds_self]
      have : i * s + j < c.size := by
       rw [hsz]
       calc i * s + j < i * s + s := by omega
        _ = (i + 1) * s := by rw [Nat.add_mul]; simp
        _ ≤ (σ o).room * s := Nat.mul_le_mul_right _ (by omega)
      simp [this]
     ·rw [List.getElem?_set_ne hjj] at hj'
      obtain ⟨u, hu, hr⟩ := hcs i x j' a' hi hj'
      rw [hoff, Nat.zero_add] at hu
      exact ⟨u, by rw [Array.getElem?_setIfInBounds_ne (by omega)]; exact hu, hr.ext hx⟩
    ·rw [List.getElem?_set_ne hii] at hi'
     obtain ⟨u, hu, hr⟩ := hcs i' x' j' a' hi' hj'
     rw [hoff, Nat.zero_add] at hu
     have hj's : j' < s := by have := (List.getElem?_eq_some_iff.1 hj').1; have hl := (h1 x' (List.mem_of_getElem? hi')).1; omega
     exact ⟨u, by rw [Array.getElem?_setIfInBounds_ne (fun hh => hii (idx_ne hj hj's hh).1)]; exact hu, hr.ext hx⟩
  ·rw [List.getElem?_set_ne hop] at hp
   have hrel := h.obj hp
   -- another block, or no block at all
   by_cases hbb : (σ p).blk = (σ o).blk
   ·cases y with
    | arr s' xs' ro' =>
     obtain ⟨k1, k2, k3⟩ := hrel
     by_cases hr0 : (σ p).room = 0
     ·exact ⟨k1, k2, .inl hr0⟩
     ·exfalso
      obtain ⟨c', e', fr', hb', _, ho1, ho2⟩ := k3.resolve_left hr0
      cases ro' with
      | true => exact hB (hbb ▸ ho2 rfl)
      | false =>
       have := h.apart hp ho (by simp [AObj.owns, hr0]) (by simp [AObj.owns]; omega) hbb
       omega
    | map es =>
     exfalso
     obtain ⟨k1, ms, clock, hb', _⟩ := hrel
     rw [hbb, hb] at hb'; cases hb'
    | iter s' p' =>
     exfalso
     obtain ⟨k1, hb'⟩ := hrel
     rw [hbb, hb] at hb'; cases hb'
    | ghost => trivial
   ·exact hrel.ext hx (Below.heap_setCell _ _ _ _ hbb)
 ·intro p p' y y' hp hp' hy hy' hbb
  have back : ∀ {q : Nat} {z : AObj}, (H.set o (.arr s (xs.set i (x.set j a)) false))[q]? = some z → z.owns (σ q) = true → ∃ z', H[q]? = some z' ∧ z'.owns (σ q) = true := by
   intro q z hq hz
   by_cases hop : o = q
   ·subst hop
    rw [List.getElem?_set_self holt] at hq
    injection hq with hq; subst hq
    exact ⟨_, ho, hz⟩
   ·rw [List.getElem?_set_ne hop] at hq
    exact ⟨z, hq, hz⟩
  obtain ⟨z, hz, hz1⟩ := back hp hy
  obtain ⟨z', hz', hz1'⟩ := back hp' hy'
  exact h.apart hz hz' hz1 hz1' hbb
def putAt {α : Type} : List α → Nat → List α → List α
 | x, _, [] => x
 | x, j, a :: r => putAt (x.set j a) (j + 1) r
@[simp] theorem putAt_nil {α : Type} (x : List α) (j : Nat) : putAt x j [] = x := rfl
@[simp] theorem putAt_cons {α : Type} (x : List α) (j : Nat) (a : α) (r : List α) : putAt x j (a :: r) = putAt (x.set j a) (j + 1) r := rfl
theorem putAt_length {α : Type} : ∀ (ys x : List α) (j : Nat), (putAt x j ys).length = x.length
 | [], _, _ => rfl
 | a :: r, x, j => by rw [putAt_cons, putAt_length r]; simp
theorem putAt_eq {α : Type} : ∀ (ys x : List α) (j : Nat), j + ys.length ≤ x.length → putAt x j ys = x.take j ++ ys ++ x.drop (j + ys.length)
 | [], x, j, _ => by simp
 | a :: r, x, j, h => by
  simp only [List.length_cons] at h
  rw [putAt_cons, putAt_eq r (x.set j a) (j + 1) (by simp; omega)]
  have hj : j < x.length := by omega
  have e1 : (x.set j a).take (j + 1) = x.take j ++ [a] := by
   rw [List.set_eq_take_append_cons_drop, if_pos hj, List.take_append, List.take_of_length_le (by simp; omega)]
   have : j + 1 - (List.take j x).length = 1 := by simp; omega
   rw [this]; simp
  have e2 : (x.set j a).drop (j + 1 + r.length) = x.drop (j + (r.length + 1)) := by
   rw [List.drop_set, if_pos (by omega)]; congr 1; omega
  rw [e1, e2]; simp
theorem VRs.putAt {σ : Sig} {H : Heap} : ∀ {ys : List AVal} {vs : List Value} {l : List AVal} {r : List Value} (j : Nat), VRs σ H l r → VRs σ H ys vs → VRs σ H (putAt l j ys) (putAt r j vs)
 | [], [], _, _, _, h, _ => h
 | a :: ys, v :: vs, l, r, j, h, h' => by
  rw [VRs_cons] at h'
  exact VRs.putAt (j + 1) (h.set j h'.1) h'.2
 | [], _ :: _, _, _, _, _, h => by simp [VRs] at h
 | _ :: _, [], _, _, _, _, h => by simp [VRs] at h
theorem RelH.write {B : Nat → Prop} {σ : Sig} {o s : Nat} {i : Nat} : ∀ (ys : List AVal) (cs : List Value) {H : Heap} {w : World} {xs : List (List AVal)} {x : List AVal} (j : Nat),
 RelH B σ H w → H[o]? = some (.arr s xs false) → xs[i]? = some x → j + ys.length ≤ s → VRs σ H ys cs → ys.all AVal.cell = true →
 RelH B σ (H.set o (.arr s (xs.set i (putAt x j ys)) false)) (w.setCells (σ o).blk (i * s + j) cs)
 | [], [], H, w, xs, x, j, h, ho, hi, _, _, _ => by
  have e1 : xs.set i x = xs := by
   obtain ⟨hl, rfl⟩ := List.getElem?_eq_some_iff.1 hi; simp
  have e2 : H.set o (.arr s xs false) = H := by
   obtain ⟨hl, hh⟩ := List.getElem?_eq_some_iff.1 ho; rw [← hh]; simp
  simpa [e1, e2, World.setCells] using h
 | [], _ :: _, _, _, _, _, _, _, _, _, _, hv, _ => by simp [VRs] at hv
 | _ :: _, [], _, _, _, _, _, _, _, _, _, hv, _ => by simp [VRs] at hv
 | a :: ys, v :: cs, H, w, xs, x, j, h, ho, hi, hj, hv, hc => by
  rw [VRs_cons] at hv
  simp only [List.all_cons, Bool.and_eq_true] at hc
  simp only [List.length_cons] at hj
  have h1 := h.write1 ho hi (j := j) (by omega) hv.1 hc.1
  have holt : o < H.length := (List.getElem?_eq_some_iff.1 ho).1
  have hilt : i < xs.length := (List.getElem?_eq_some_iff.1 hi).1
  have hal : Alike H (H.set o (.arr s (xs.set i (x.set j a)) false)) := Alike.set_arr ho (by simp)
  have h2 := RelH.write ys cs (j + 1) h1 (List.getElem?_set_self holt) (List.getElem?_set_self hilt) (by omega) (hv.2.ext (hal.ext σ)) hc.2
  rw [List.set_set, List.set_set] at h2
  simpa only [putAt_cons, World.setCells, Nat.add_assoc] using h2
theorem RelH.there {B : Nat → Prop} {σ : Sig} {H : Heap} {w : World} (h : RelH B σ H w) {o s : Nat} {xs : List (List AVal)} (ho : H[o]? = some (.arr s xs false))
 {i : Nat} (hi : i < xs.length) (j k : Nat) (hjk : j + k ≤ s) : w.there (σ o).blk (i * s + j) k := by
 obtain ⟨h1, h2, h3⟩ := h.obj ho
 obtain ⟨c, e, fr, hb, hcs, hown, -⟩ := h3.resolve_left (by omega)
 obtain ⟨hB, hoff, hfr, hsz⟩ := hown rfl
 intro m hm
 have : i * s + j + m < c.size := by
  rw [hsz]
  calc i * s + j + m < i * s + s := by omega
   _ = (i + 1) * s := by rw [Nat.add_mul]; simp
   _ ≤ (σ o).room * s := Nat.mul_le_mul_right _ (by omega)
 refine ⟨by rw [cell_of_row w _ _ c e fr hb]; simp [this], ?_⟩
 simp [World.frozen?, hb, hfr]
def Sig.upd (σ : Sig) (o : Nat) (p : Place) : Sig := fun q => if q = o then p else σ q
theorem Grow.push (σ : Sig) (H : Heap) (x : AObj) (p : Place) : Grow σ H (σ.upd H.length p) (H ++ [x]) := by
 have hs : ∀ {o} {y : AObj}, H[o]? = some y → (σ.upd H.length p) o = σ o ∧ (H ++ [x])[o]? = some y := by
  intro o y ho
  have : o < H.length := (List.getElem?_eq_some_iff.1 ho).1
  exact ⟨by simp [Sig.upd]; omega, by rw [List.getElem?_append_left this]; exact ho⟩
 exact ⟨by simp, fun ho => ⟨_, (hs ho).2, Nat.le_refl _, fun _ => (hs ho).1⟩, fun ho => ⟨⟨_, (hs ho).2⟩, (hs ho).1⟩, fun ho => ⟨⟨_, _, (hs ho).2⟩, (hs ho).1⟩⟩
theorem Ext.push (σ : Sig) (H : Heap) (x : AObj) (p : Place) (hx : x.isNew = true) : Ext σ H (σ.upd H.length p) (H ++ [x]) := by
 refine ⟨Grow.push σ H x p, fun ho => ?_, fun {o s xs} ho => ?_⟩
 ·rw [List.getElem?_append_left (List.getElem?_eq_some_iff.1 ho).1]; exact ho
 ·rw [List.getElem?_append] at ho
  split at ho
  ·rename_i hl; exact ⟨⟨_, ho⟩, by simp [Sig.upd]; omega⟩
  ·have : AObj.arr s xs true ∈ [x] := List.mem_of_getElem? ho
   simp at this; subst this; cases hx
theorem RelH.push {B : Nat → Prop} {σ : Sig} {H : Heap} {w : World} (h : RelH B σ H w) (x : AObj) (ob : Obj) (room : Nat)
 (hx : RelO (σ.upd H.length ⟨w.heap.size, 0, room⟩) (H ++ [x]) B (w.alloc ob) ⟨w.heap.size, 0, room⟩ x) :
 RelH B (σ.upd H.length ⟨w.heap.size, 0, room⟩) (H ++ [x]) (w.alloc ob) := by
 have hext := Grow.push σ H x ⟨w.heap.size, 0, room⟩
 have hsame : ∀ {o}, o ≠ H.length → (σ.upd H.length ⟨w.heap.size, 0, room⟩) o = σ o := fun ho => by simp [Sig.upd, ho]
 have hself : (σ.upd H.length ⟨w.heap.size, 0, room⟩) H.length = ⟨w.heap.size, 0, room⟩ := by simp [Sig.upd]
 have hlt : ∀ {o y}, H[o]? = some y → y.owns (σ o) = true → (σ o).blk < w.heap.size := by
  intro o y ho hy
  have hr := h.obj ho
  have bl : ∀ {k : Nat} {z : Obj}, w.heap[k]? = some z → k < w.heap.size := fun {k z} hz => by
   rcases Nat.lt_or_ge k w.heap.size with h' | h'
   ·exact h'
   ·simp [Array.getElem?_eq_none h'] at hz
  cases y with
  | arr s xs ro =>
   obtain ⟨-, -, h3⟩ := hr
   simp [AObj.owns] at hy
   obtain ⟨c, e, fr, hb, -⟩ := h3.resolve_left hy.2
   exact bl hb
  | map es => obtain ⟨-, ms, clock, hb, -⟩ := hr; exact bl hb
  | iter s p => obtain ⟨-, hb⟩ := hr; exact bl hb
  | ghost => simp [AObj.owns] at hy
 refine ⟨?_, ?_, fun k hk => by rw [World.size_alloc]; exact Nat.lt_succ_of_lt (h.base k hk)⟩
 ·intro o y ho
  by_cases hol : o = H.length
  ·subst hol
   rw [hself]
   simp at ho; subst ho
   exact hx
  ·rw [hsame hol]
   have ho' : H[o]? = some y := by
    rcases Nat.lt_or_ge o H.length with h' | h'
    ·rwa [List.getElem?_append_left h'] at ho
    ·rw [List.getElem?_eq_none (by simp; omega)] at ho; cases ho
   have hr := h.obj ho'
   by_cases hb : (σ o).blk < w.heap.size
   ·exact hr.grow hext (Below.heap_alloc _ _ _ hb)
   ·have hno : ¬ y.owns (σ o) = true := fun hy => hb (hlt ho' hy)
    cases y with
    | arr s xs ro =>
     obtain ⟨h1, h2, h3⟩ := hr
     rcases h3 with h3 | ⟨c, e, fr, hbb, -⟩
     ·exact ⟨h1, h2, .inl h3⟩
     ·exfalso
      rw [Array.getElem?_eq_none (by omega)] at hbb; cases hbb
    | map es => simp [AObj.owns] at hno
    | iter s p => simp [AObj.owns] at hno
    | ghost => trivial
 ·intro o o' y y' ho ho' hy hy' hbb
  have old : ∀ {q : Nat} {z : AObj}, q ≠ H.length → (H ++ [x])[q]? = some z → H[q]? = some z := by
   intro q z hq hz
   rcases Nat.lt_or_ge q H.length with h' | h'
   ·rwa [List.getElem?_append_left h'] at hz
   ·rw [List.getElem?_eq_none (by simp; omega)] at hz; cases hz
  by_cases h1 : o = H.length <;> by_cases h2 : o' = H.length
  ·omega
  ·subst h1
   rw [hself, hsame h2] at hbb
   rw [hsame h2] at hy'
   have := hlt (old h2 ho') hy'
   simp at hbb; omega
  ·subst h2
   rw [hself, hsame h1] at hbb
   rw [hsame h1] at hy
   have := hlt (old h1 ho) hy
   simp at hbb; omega
  ·rw [hsame h1, hsame h2] at hbb
   rw [hsame h1] at hy
   rw [hsame h2] at hy'
   exact h.apart (old h1 ho) (old h2 ho') hy hy' hbb
end Go.Ax
namespace Go.Ax
open Go Go.RowKit
mutual
def AVal.wf (n : Nat) : AVal → Prop
 | .ptr o _ _ _ => o < n
 | .slice o _ _ _ _ => o < n
 | .acc o _ => o < n
 | .isl o _ _ _ _ => o < n
 | .map o => o < n
 | .itr o => o < n
 | .func _ l => wfs n l
 | .iface _ v => AVal.wf n v
 | .agg l => wfs n l
 | .tup l => wfs n l
 | _ => True
def wfs (n : Nat) : List AVal → Prop
 | [] => True
 | a :: l => AVal.wf n a ∧ wfs n l
end
mutual
def AVal.plain : AVal → Bool
 | .int .. | .bool _ | .str _ | .lit _ | .top => true
 | .agg l => plains l
 | .tup l => plains l
 | _ => false
def plains : List AVal → Bool
 | [] => true
 | a :: l => AVal.plain a && plains l
end
def AObj.wf (n : Nat) : AObj → Prop
 | .arr _ xs _ => ∀ x ∈ xs, wfs n x
 | .map es => wfs n (es.map (·.1)) ∧ wfs n (es.map (·.2))
 | .iter _ _ => True
 | .ghost => True
def WfH (H : Heap) : Prop := ∀ (o : Nat) (x : AObj), H[o]? = some x → x.wf H.length
theorem wfs_iff {n : Nat} : ∀ {l : List AVal}, wfs n l ↔ ∀ a ∈ l, a.wf n
 | [] => by simp [wfs]
 | a :: l => by simp [wfs, wfs_iff (l := l)]
mutual
theorem AVal.wf_mono {n m : Nat} (h : n ≤ m) : ∀ {v : AVal}, v.wf n → v.wf m
 | .ptr .., hv => by simp only [AVal.wf] at *; omega
 | .slice .., hv => by simp only [AVal.wf] at *; omega
 | .acc .., hv => by simp only [AVal.wf] at *; omega
 | .isl .., hv => by simp only [AVal.wf] at *; omega
 | .map .., hv => by simp only [AVal.wf] at *; omega
 | .itr .., hv => by simp only [AVal.wf] at *; omega
 | .func _ l, hv => by simp only [AVal.wf] at *; exact wfs_mono h hv
 | .iface _ v, hv => by simp only [AVal.wf] at *; exact AVal.wf_mono h hv
 | .agg l, hv => by simp only [AVal.wf] at *; exact wfs_mono h hv
 | .tup l, hv => by simp only [AVal.wf] at *; exact wfs_mono h hv
 | .top, _ => by simp [AVal.wf]
 | .int .., _ => by simp [AVal.wf]
 | .bool _, _ => by simp [AVal.wf]
 | .str _, _ => by simp [AVal.wf]
 | .lit _, _ => by simp [AVal.wf]
theorem wfs_mono {n m : Nat} (h : n ≤ m) : ∀ {l : List AVal}, wfs n l → wfs m l
 | [], _ => by simp [wfs]
 | a :: l, hv => by simp only [wfs] at *; exact ⟨AVal.wf_mono h hv.1, wfs_mono h hv.2⟩
end
theorem lt_of_get {H : Heap} {o : Nat} {x : AObj} (h : H[o]? = some x) : o < H.length := (List.getElem?_eq_some_iff.1 h).1
mutual
theorem VR.wf {σ : Sig} {H : Heap} : ∀ {a : AVal} {v : Value}, VR σ H a v → a.wf H.length
 | .ptr .., _, h => by simp only [VR, AVal.wf] at *; obtain ⟨_, _, _, _, ho, _⟩ := h; exact lt_of_get ho
 | .slice .., _, h => by simp only [VR, AVal.wf] at *; obtain ⟨_, _, _, _, _, ho, _⟩ := h; exact lt_of_get ho
 | .acc .., _, h => by simp only [VR, AVal.wf] at *; obtain ⟨_, _, _, ho, _⟩ := h; exact lt_of_get ho
 | .isl .., _, h => by simp only [VR, AVal.wf] at *; obtain ⟨_, _, _, _, _, ho, _⟩ := h; exact lt_of_get ho
 | .map .., _, h => by simp only [VR, AVal.wf] at *; obtain ⟨_, _, ho⟩ := h; exact lt_of_get ho
 | .itr .., _, h => by simp only [VR, AVal.wf] at *; obtain ⟨_, _, _, ho⟩ := h; exact lt_of_get ho
 | .func _ l, _, h => by simp only [VR, AVal.wf] at *; obtain ⟨_, _, hc⟩ := h; exact VRs.wf hc
 | .iface _ v, _, h => by simp only [VR, AVal.wf] at *; obtain ⟨_, _, hc⟩ := h; exact VR.wf hc
 | .agg l, _, h => by simp only [VR, AVal.wf] at *; obtain ⟨_, _, _, hc⟩ := h; exact VRs.wf hc
 | .tup l, _, h => by simp only [VR, AVal.wf] at *; obtain ⟨_, _, hc⟩ := h; exact VRs.wf hc
 | .top, _, _ => by simp [AVal.wf]
 | .int .., _, _ => by simp [AVal.wf]
 | .bool _, _, _ => by simp [AVal.wf]
 | .str _, _, _ => by simp [AVal.wf]
 | .lit _, _, _ => by simp [AVal.wf]
theorem VRs.wf {σ : Sig} {H : Heap} : ∀ {l : List AVal} {r : List Value}, VRs σ H l r → wfs H.length l
 | [], [], _ => by simp [wfs]
 | [], _ :: _, h => by simp [VRs] at h
 | _ :: _, [], h => by simp [VRs] at h
 | a :: l, v :: r, h => by rw [VRs_cons] at h; simp only [wfs]; exact ⟨VR.wf h.1, VRs.wf h.2⟩
end
theorem RelH.wf {B : Nat → Prop} {σ : Sig} {H : Heap} {w : World} (h : RelH B σ H w) : WfH H := by
 intro o x ho
 have hr := h.obj ho
 cases x with
 | arr s xs ro =>
  obtain ⟨h1, h2, h3⟩ := hr
  intro x hx
  rw [wfs_iff]
  intro y hy
  obtain ⟨i, hi, rfl⟩ := List.mem_iff_getElem.1 hx
  obtain ⟨j, hj, rfl⟩ := List.mem_iff_getElem.1 hy
  obtain ⟨c, e, fr, hb, hc, -⟩ := h3.resolve_left (by omega)
  obtain ⟨v, -, hv⟩ := hc i _ j _ (List.getElem?_eq_getElem hi) (List.getElem?_eq_getElem hj)
  exact hv.wf
 | map es => obtain ⟨-, ms, clock, -, hk, hv⟩ := hr; exact ⟨hk.wf, hv.wf⟩
 | iter s p => trivial
 | ghost => trivial
mutual
theorem VR.cut {σ : Sig} {H G : Heap} : ∀ {a : AVal} {v : Value}, VR σ (H ++ G) a v → a.wf H.length → VR σ H a v
 | .ptr o n i j, v, h, hw => by
  simp only [VR, AVal.wf] at *
  rw [List.getElem?_append_left hw] at h; exact h
 | .slice .., v, h, hw => by
  simp only [VR, AVal.wf] at *
  rw [List.getElem?_append_left hw] at h; exact h
 | .acc .., v, h, hw => by
  simp only [VR, AVal.wf] at *
  rw [List.getElem?_append_left hw] at h; exact h
 | .isl .., v, h, hw => by
  simp only [VR, AVal.wf] at *
  rw [List.getElem?_append_left hw] at h; exact h
 | .map .., v, h, hw => by
  simp only [VR, AVal.wf] at *
  rw [List.getElem?_append_left hw] at h; exact h
 | .itr .., v, h, hw => by
  simp only [VR, AVal.wf] at *
  rw [List.getElem?_append_left hw] at h; exact h
 | .func _ l, _, h, hw => by simp only [VR, AVal.wf] at *; obtain ⟨cs, rfl, hc⟩ := h; exact ⟨cs, rfl, VRs.cut hc hw⟩
 | .iface _ v, _, h, hw => by simp only [VR, AVal.wf] at *; obtain ⟨cs, rfl, hc⟩ := h; exact ⟨cs, rfl, VR.cut hc hw⟩
 | .agg l, _, h, hw => by simp only [VR, AVal.wf] at *; obtain ⟨ha, cs, rfl, hc⟩ := h; exact ⟨ha, cs, rfl, VRs.cut hc hw⟩
 | .tup l, _, h, hw => by simp only [VR, AVal.wf] at *; obtain ⟨cs, rfl, hc⟩ := h; exact ⟨cs, rfl, VRs.cut hc hw⟩
 | .top, _, _, _ => by simp [VR]
 | .int .., _, h, _ => by simpa only [VR] using h
 | .bool _, _, h, _ => by simpa only [VR] using h
 | .str _, _, h, _ => by simpa only [VR] using h
 | .lit _, _, h, _ => by simpa only [VR] using h
theorem VRs.cut {σ : Sig} {H G : Heap} : ∀ {l : List AVal} {r : List Value}, VRs σ (H ++ G) l r → wfs H.length l → VRs σ H l r
 | [], [], _, _ => by simp
 | [], _ :: _, h, _ => by simp [VRs] at h
 | _ :: _, [], h, _ => by simp [VRs] at h
 | a :: l, v :: r, h, hw => by
  rw [VRs_cons] at h ⊢
  simp only [wfs] at hw
  exact ⟨VR.cut h.1 hw.1, VRs.cut h.2 hw.2⟩
end
theorem RelH.cut {B : Nat → Prop} {σ : Sig} {H G : Heap} {w : World} (h : RelH B σ (H ++ G) w) (hw : WfH H) : RelH B σ H w := by
 have up : ∀ {o : Nat} {x : AObj}, H[o]? = some x → (H ++ G)[o]? = some x := fun ho => by rw [List.getElem?_append_left (lt_of_get ho)]; exact ho
 refine ⟨fun {o x} ho => ?_, fun ho ho' => h.apart (up ho) (up ho'), h.base⟩
 have hr := h.obj (up ho)
 have hwx := hw o x ho
 cases x with
 | arr s xs ro =>
  obtain ⟨h1, h2, h3⟩ := hr
  refine ⟨h1, h2, h3.imp id ?_⟩
  rintro ⟨c, e, fr, hb, hc, hn, hr⟩
  refine ⟨c, e, fr, hb, fun i x' j a hi hj => ?_, hn, hr⟩
  obtain ⟨v, hv, hrv⟩ := hc i x' j a hi hj
  exact ⟨v, hv, hrv.cut (wfs_iff.1 (hwx x' (List.mem_of_getElem? hi)) a (List.mem_of_getElem? hj))⟩
 | map es =>
  obtain ⟨h1, ms, clock, hb, hk, hv⟩ := hr
  exact ⟨h1, ms, clock, hb, hk.cut hwx.1, hv.cut hwx.2⟩
 | iter s p => exact hr
 | ghost => trivial
theorem Ext.cut {σ0 σ : Sig} {H0 H G : Heap} (h : Ext σ0 H0 σ (H ++ G)) (hl : H0.length ≤ H.length) : Ext σ0 H0 σ H := by
 have dn : ∀ {o : Nat} {x y : AObj}, H0[o]? = some y → (H ++ G)[o]? = some x → H[o]? = some x := fun h0 h1 => by
  have := lt_of_get h0
  rwa [List.getElem?_append_left (by omega)] at h1
 refine ⟨⟨hl, fun ho => ?_, fun ho => ?_, fun ho => ?_⟩, fun ho => dn ho (h.ghost ho), fun {o s xs} ho => h.old (by rw [List.getElem?_append_left (lt_of_get ho)]; exact ho)⟩
 ·obtain ⟨xs', h1, h2⟩ := h.arr ho
  exact ⟨xs', dn ho h1, h2⟩
 ·obtain ⟨⟨es, h1⟩, h2⟩ := h.map ho
  exact ⟨⟨es, dn ho h1⟩, h2⟩
 ·obtain ⟨⟨s, p, h1⟩, h2⟩ := h.iter ho
  exact ⟨⟨s, p, dn ho h1⟩, h2⟩
mutual
theorem wf_of_flat {n : Nat} : ∀ {v : AVal}, v.plain = true → v.wf n
 | .int .., _ => by simp [AVal.wf]
 | .bool _, _ => by simp [AVal.wf]
 | .str _, _ => by simp [AVal.wf]
 | .lit _, _ => by simp [AVal.wf]
 | .top, _ => by simp [AVal.wf]
 | .agg l, h => by simp only [AVal.plain] at h; simp only [AVal.wf]; exact wfs_of_flat h
 | .tup l, h => by simp only [AVal.plain] at h; simp only [AVal.wf]; exact wfs_of_flat h
 | .ptr .., h => by simp [AVal.plain] at h
 | .slice .., h => by simp [AVal.plain] at h
 | .acc .., h => by simp [AVal.plain] at h
 | .isl .., h => by simp [AVal.plain] at h
 | .map .., h => by simp [AVal.plain] at h
 | .itr .., h => by simp [AVal.plain] at h
 | .func .., h => by simp [AVal.plain] at h
 | .iface .., h => by simp [AVal.plain] at h
theorem wfs_of_flat {n : Nat} : ∀ {l : List AVal}, plains l = true → wfs n l
 | [], _ => by simp [wfs]
 | a :: l, h => by simp only [plains, Bool.and_eq_true] at h; simp only [wfs]; exact ⟨wf_of_flat h.1, wfs_of_flat h.2⟩
end
end Go.Ax
