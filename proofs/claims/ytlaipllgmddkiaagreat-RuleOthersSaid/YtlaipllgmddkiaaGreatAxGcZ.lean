/- Objects are let go, and those that are kept close up. Conditions: none. -/
import Derived.Test.YtlaipllgmddkiaaGreatAxEnterZ
set_option linter.all false
namespace Go.Ax
open Go Go.RowKit
abbrev Ren := Nat → Nat → Prop
mutual
def VRen (r : Ren) : AVal → AVal → Prop
 | .ptr o n i j, b => ∃ o', b = .ptr o' n i j ∧ r o o'
 | .slice o n st len full, b => ∃ o', b = .slice o' n st len full ∧ r o o'
 | .acc o n, b => ∃ o', b = .acc o' n ∧ r o o'
 | .isl o n i j len, b => ∃ o', b = .isl o' n i j len ∧ r o o'
 | .map o, b => ∃ o', b = .map o' ∧ r o o'
 | .itr o, b => ∃ o', b = .itr o' ∧ r o o'
 | .func f l, b => ∃ l', b = .func f l' ∧ VRens r l l'
 | .iface t v, b => ∃ v', b = .iface t v' ∧ VRen r v v'
 | .agg l, b => ∃ l', b = .agg l' ∧ VRens r l l'
 | .tup l, b => ∃ l', b = .tup l' ∧ VRens r l l'
 | a, b => b = a
def VRens (r : Ren) : List AVal → List AVal → Prop
 | [], l => l = []
 | a :: l, l' => ∃ b l2, l' = b :: l2 ∧ VRen r a b ∧ VRens r l l2
end
mutual
theorem VRen.refl {r : Ren} : ∀ {a : AVal}, a.refs (fun o => r o o) → VRen r a a
 | .ptr .., h => ⟨_, rfl, h⟩
 | .slice .., h => ⟨_, rfl, h⟩
 | .acc .., h => ⟨_, rfl, h⟩
 | .isl .., h => ⟨_, rfl, h⟩
 | .map .., h => ⟨_, rfl, h⟩
 | .itr .., h => ⟨_, rfl, h⟩
 | .func _ l, h => ⟨_, rfl, VRens.refl h⟩
 | .iface _ v, h => ⟨_, rfl, VRen.refl h⟩
 | .agg l, h => ⟨_, rfl, VRens.refl h⟩
 | .tup l, h => ⟨_, rfl, VRens.refl h⟩
 | .top, _ => rfl
 | .int .., _ => rfl
 | .bool _, _ => rfl
 | .str _, _ => rfl
 | .lit _, _ => rfl
theorem VRens.refl {r : Ren} : ∀ {l : List AVal}, refsL (fun o => r o o) l → VRens r l l
 | [], _ => rfl
 | a :: l, h => ⟨_, _, rfl, VRen.refl h.1, VRens.refl h.2⟩
end
mutual
theorem VRen.cell {r : Ren} : ∀ {a b : AVal}, VRen r a b → a.cell = b.cell
 | .ptr .., _, h => by obtain ⟨_, rfl, _⟩ := h; rfl
 | .slice .., _, h => by obtain ⟨_, rfl, _⟩ := h; rfl
 | .acc .., _, h => by obtain ⟨_, rfl, _⟩ := h; rfl
 | .isl .., _, h => by obtain ⟨_, rfl, _⟩ := h; rfl
 | .map .., _, h => by obtain ⟨_, rfl, _⟩ := h; rfl
 | .itr .., _, h => by obtain ⟨_, rfl, _⟩ := h; rfl
 | .func _ l, _, h => by obtain ⟨_, rfl, _⟩ := h; rfl
 | .iface _ v, _, h => by obtain ⟨_, rfl, _⟩ := h; rfl
 | .agg l, _, h => by obtain ⟨_, rfl, _⟩ := h; rfl
 | .tup l, _, h => by obtain ⟨_, rfl, _⟩ := h; rfl
 | .top, _, h => by subst h; rfl
 | .int .., _, h => by subst h; rfl
 | .bool _, _, h => by subst h; rfl
 | .str _, _, h => by subst h; rfl
 | .lit _, _, h => by subst h; rfl
end
theorem VRens.all_cell {r : Ren} : ∀ {l l' : List AVal}, VRens r l l' → l.all AVal.cell = l'.all AVal.cell
 | [], _, h => by subst h; rfl
 | a :: l, _, ⟨b, l2, rfl, h1, h2⟩ => by simp only [List.all_cons, h1.cell, VRens.all_cell h2]
theorem VRens.length {r : Ren} : ∀ {l l' : List AVal}, VRens r l l' → l.length = l'.length
 | [], _, h => by subst h; rfl
 | a :: l, _, ⟨b, l2, rfl, h1, h2⟩ => by simp [VRens.length h2]
theorem VRens.get {r : Ren} : ∀ {l l' : List AVal}, VRens r l l' → ∀ {i : Nat} {b : AVal}, l'[i]? = some b → ∃ a, l[i]? = some a ∧ VRen r a b
 | [], _, h, i, b, hb => by subst h; simp at hb
 | a :: l, _, ⟨c, l2, rfl, h1, h2⟩, i, b, hb => by
  cases i with
  | zero => simp at hb; subst hb; exact ⟨a, rfl, h1⟩
  | succ i => simpa using h2.get (by simpa using hb)
theorem VRens.append {r : Ren} : ∀ {a b c d : List AVal}, VRens r a c → VRens r b d → VRens r (a ++ b) (c ++ d)
 | [], _, _, _, h, h' => by subst h; simpa using h'
 | a :: l, _, _, _, ⟨c, l2, rfl, h1, h2⟩, h' => ⟨c, _, rfl, h1, h2.append h'⟩
def ORen (r : Ren) : AObj → AObj → Prop
 | .arr s xs ro, y => ∃ ys, y = .arr s ys ro ∧ xs.length = ys.length ∧ ∀ (i : Nat) (x x' : List AVal), xs[i]? = some x → ys[i]? = some x' → VRens r x x'
 | .map es, y => ∃ fs, y = .map fs ∧ VRens r (es.map (·.1)) (fs.map (·.1)) ∧ VRens r (es.map (·.2)) (fs.map (·.2))
 | a, y => y = a
theorem ORen.refl {r : Ren} {x : AObj} (h : x.refs (fun o => r o o)) : ORen r x x := by
 cases x with
 | arr s xs ro => exact ⟨xs, rfl, rfl, fun i x x' h1 h2 => by rw [h1] at h2; injection h2 with h2; subst h2; exact VRens.refl (h x (List.mem_of_getElem? h1))⟩
 | map es => exact ⟨es, rfl, VRens.refl h.1, VRens.refl h.2⟩
 | iter s p => rfl
 | ghost => rfl
theorem ORen.owns {r : Ren} {x y : AObj} (h : ORen r x y) (p : Place) : x.owns p = y.owns p := by
 cases x with
 | arr s xs ro => obtain ⟨_, rfl, _⟩ := h; rfl
 | map es => obtain ⟨_, rfl, _⟩ := h; rfl
 | iter s p => cases h; rfl
 | ghost => cases h; rfl
structure Plc (r : Ren) (σ : Sig) (H : Heap) (σ' : Sig) (H' : Heap) : Prop where
 place : ∀ {o o' : Nat}, r o o' → σ' o' = σ o ∧ ∀ x, H[o]? = some x → ∃ y, H'[o']? = some y ∧ ORen r x y
structure Kpt (r : Ren) (σ : Sig) (H : Heap) (σ' : Sig) (H' : Heap) : Prop extends Plc r σ H σ' H' where
 obj : ∀ {o' : Nat} {y : AObj}, H'[o']? = some y → ∃ o x, r o o' ∧ H[o]? = some x ∧ ORen r x y
 one : ∀ {o p o' p' : Nat}, r o o' → r p p' → o = p → o' = p'
mutual
theorem VR.ren {r : Ren} {σ σ' : Sig} {H H' : Heap} (k : Plc r σ H σ' H') : ∀ {a b : AVal} {v : Value}, VRen r a b → VR σ H a v → VR σ' H' b v
 | .ptr o n i j, _, v, ⟨o', rfl, ho⟩, h => by
  simp only [VR] at h ⊢
  obtain ⟨s, xs, ro, a, hx, h1, h2, h3⟩ := h
  obtain ⟨hs, hy⟩ := k.place ho
  obtain ⟨_, hy1, ys, rfl, hl, -⟩ := hy _ hx
  exact ⟨s, ys, ro, a, hy1, by omega, h2, fun e => by rw [hs]; exact h3 (by omega)⟩
 | .slice o n st len full, _, v, ⟨o', rfl, ho⟩, h => by
  simp only [VR] at h ⊢
  obtain ⟨s, xs, ro, a, cap, hx, h1, h2, h3, h4, h5, h6, h7⟩ := h
  obtain ⟨hs, hy⟩ := k.place ho
  obtain ⟨_, hy1, ys, rfl, hl, -⟩ := hy _ hx
  exact ⟨s, ys, ro, a, cap, hy1, by omega, h2, h3, h4, h5, h6, fun e => by rw [hs]; exact h7 (by omega)⟩
 | .acc o n, _, v, ⟨o', rfl, ho⟩, h => by
  simp only [VR] at h ⊢
  obtain ⟨s, xs, ro, hx, h1, h2, h3⟩ := h
  obtain ⟨hs, hy⟩ := k.place ho
  obtain ⟨_, hy1, ys, rfl, hl, -⟩ := hy _ hx
  refine ⟨s, ys, ro, hy1, by omega, h2, fun e => ?_⟩
  obtain ⟨a, cap, q1, q2, q3⟩ := h3 e
  exact ⟨a, cap, q1, q2, fun e => by rw [hs]; exact q3 (by omega)⟩
 | .isl o n i j len, _, v, ⟨o', rfl, ho⟩, h => by
  simp only [VR] at h ⊢
  obtain ⟨s, xs, ro, a, cap, hx, h1, h2, h3, h4⟩ := h
  obtain ⟨hs, hy⟩ := k.place ho
  obtain ⟨_, hy1, ys, rfl, hl, -⟩ := hy _ hx
  exact ⟨s, ys, ro, a, cap, hy1, by omega, h2, h3, fun e => by rw [hs]; exact h4 (by omega)⟩
 | .map o, _, v, ⟨o', rfl, ho⟩, h => by
  simp only [VR] at h ⊢
  obtain ⟨h1, es, hx⟩ := h
  obtain ⟨hs, hy⟩ := k.place ho
  obtain ⟨_, hy1, fs, rfl, -⟩ := hy _ hx
  exact ⟨by rw [hs]; exact h1, fs, hy1⟩
 | .itr o, _, v, ⟨o', rfl, ho⟩, h => by
  simp only [VR] at h ⊢
  obtain ⟨h1, s, p, hx⟩ := h
  obtain ⟨hs, hy⟩ := k.place ho
  obtain ⟨_, hy1, rfl⟩ := hy _ hx
  exact ⟨by rw [hs]; exact h1, s, p, hy1⟩
 | .func f l, _, v, ⟨l', rfl, hl⟩, h => by
  simp only [VR] at h ⊢
  obtain ⟨cs, h1, h2⟩ := h
  exact ⟨cs, h1, VRs.ren k hl h2⟩
 | .iface t x, _, v, ⟨x', rfl, hx⟩, h => by
  simp only [VR] at h ⊢
  obtain ⟨y, h1, h2⟩ := h
  exact ⟨y, h1, VR.ren k hx h2⟩
 | .agg l, _, v, ⟨l', rfl, hl⟩, h => by
  simp only [VR] at h ⊢
  obtain ⟨h0, cs, h1, h2⟩ := h
  exact ⟨by rw [← hl.all_cell]; exact h0, cs, h1, VRs.ren k hl h2⟩
 | .tup l, _, v, ⟨l', rfl, hl⟩, h => by
  simp only [VR] at h ⊢
  obtain ⟨cs, h1, h2⟩ := h
  exact ⟨cs, h1, VRs.ren k hl h2⟩
 | .top, _, _, h, _ => by cases h; simp [VR]
 | .int .., _, _, h, hv => by cases h; simpa only [VR] using hv
 | .bool _, _, _, h, hv => by cases h; simpa only [VR] using hv
 | .str _, _, _, h, hv => by cases h; simpa only [VR] using hv
 | .lit _, _, _, h, hv => by cases h; simpa only [VR] using hv
theorem VRs.ren {r : Ren} {σ σ' : Sig} {H H' : Heap} (k : Plc r σ H σ' H') : ∀ {l l' : List AVal} {vs : List Value}, VRens r l l' → VRs σ H l vs → VRs σ' H' l' vs
 | [], _, vs, h, hv => by
  cases h
  cases vs with
  | nil => simp
  | cons => simp [VRs] at hv
 | a :: l, _, [], ⟨b, l2, rfl, h1, h2⟩, hv => by simp [VRs] at hv
 | a :: l, _, v :: vs, ⟨b, l2, rfl, h1, h2⟩, hv => by
  rw [VRs_cons] at hv ⊢
  exact ⟨VR.ren k h1 hv.1, VRs.ren k h2 hv.2⟩
end
theorem RelO.ren {r : Ren} {B : Nat → Prop} {σ σ' : Sig} {H H' : Heap} {w : World} (k : Plc r σ H σ' H') {p : Place} {x y : AObj} (hor : ORen r x y) (hrel : RelO σ H B w p x) : RelO σ' H' B w p y := by
 cases x with
 | arr s xs ro =>
  obtain ⟨ys, rfl, hl, hrows⟩ := hor
  obtain ⟨h1, h2, h3⟩ := hrel
  have row : ∀ {i : Nat} {y : List AVal}, ys[i]? = some y → ∃ x, xs[i]? = some x ∧ VRens r x y := by
   intro i y hy
   have hil : i < xs.length := by have := (List.getElem?_eq_some_iff.1 hy).1; omega
   exact ⟨xs[i], List.getElem?_eq_getElem hil, hrows i _ y (List.getElem?_eq_getElem hil) hy⟩
  refine ⟨fun y hy => ?_, by omega, h3.imp id ?_⟩
  ·obtain ⟨i, hi, rfl⟩ := List.mem_iff_getElem.1 hy
   obtain ⟨x, hx', hv⟩ := row (List.getElem?_eq_getElem hi)
   obtain ⟨q1, q2⟩ := h1 x (List.mem_of_getElem? hx')
   exact ⟨by rw [← hv.length]; exact q1, by rw [← hv.all_cell]; exact q2⟩
  ·rintro ⟨c, e, fr, hb, hc, hn, hro⟩
   refine ⟨c, e, fr, hb, fun i y j a hi hj => ?_, hn, hro⟩
   obtain ⟨x, hx', hv⟩ := row hi
   obtain ⟨a0, ha0, hva⟩ := hv.get hj
   obtain ⟨v, hv1, hv2⟩ := hc i x j a0 hx' ha0
   exact ⟨v, hv1, hv2.ren k hva⟩
 | map es =>
  obtain ⟨fs, rfl, h1, h2⟩ := hor
  obtain ⟨q1, ms, clock, hb, hk, hv⟩ := hrel
  exact ⟨q1, ms, clock, hb, hk.ren k h1, hv.ren k h2⟩
 | iter s p => cases hor; exact hrel
 | ghost => cases hor; trivial
theorem RelH.ren {r : Ren} {B : Nat → Prop} {σ σ' : Sig} {H H' : Heap} {w : World} (k : Kpt r σ H σ' H') (h : RelH B σ H w) : RelH B σ' H' w := by
 refine ⟨fun {o' y} ho' => ?_, fun {o' p' y y'} ho' hp' hy hy' hbb => ?_, h.base⟩
 ·obtain ⟨o, x, hr, hx, hor⟩ := k.obj ho'
  obtain ⟨hs, -⟩ := k.place hr
  rw [hs]
  exact RelO.ren k.toPlc hor (h.obj hx)
 ·obtain ⟨o, x, hr, hx, hor⟩ := k.obj ho'
  obtain ⟨p, x', hr', hx', hor'⟩ := k.obj hp'
  obtain ⟨hs, -⟩ := k.place hr
  obtain ⟨hs', -⟩ := k.place hr'
  rw [hs] at hy hbb
  rw [hs'] at hy' hbb
  exact k.one hr hr' (h.apart hx hx' (by rw [hor.owns]; exact hy) (by rw [hor'.owns]; exact hy') hbb)
theorem Ext.ren {r : Ren} {σ0 σ σ' : Sig} {H0 H H' : Heap} (k : Kpt r σ H σ' H') (h : Ext σ0 H0 σ H) (hid : ∀ o, o < H0.length → r o o) (hlen : H0.length ≤ H'.length) (hinj : ∀ {o p o' : Nat}, r o o' → r p o' → o = p) : Ext σ0 H0 σ' H' := by
 refine ⟨⟨hlen, fun {o s xs ro} ho => ?_, fun {o es} ho => ?_, fun {o s p} ho => ?_⟩, fun {o} ho => ?_, fun {o' s ys} ho' => ?_⟩
 ·obtain ⟨xs', h1, h2, h3⟩ := h.arr ho
  obtain ⟨hs, hy⟩ := k.place (hid o (List.getElem?_eq_some_iff.1 ho).1)
  obtain ⟨_, hy1, ys, rfl, hl, -⟩ := hy _ h1
  exact ⟨ys, hy1, by omega, fun e => by rw [hs]; exact h3 (by omega)⟩
 ·obtain ⟨⟨es', h1⟩, h2⟩ := h.map ho
  obtain ⟨hs, hy⟩ := k.place (hid o (List.getElem?_eq_some_iff.1 ho).1)
  obtain ⟨_, hy1, fs, rfl, -⟩ := hy _ h1
  exact ⟨⟨fs, hy1⟩, by rw [hs]; exact h2⟩
 ·obtain ⟨⟨s', p', h1⟩, h2⟩ := h.iter ho
  obtain ⟨hs, hy⟩ := k.place (hid o (List.getElem?_eq_some_iff.1 ho).1)
  obtain ⟨_, hy1, rfl⟩ := hy _ h1
  exact ⟨⟨s', p', hy1⟩, by rw [hs]; exact h2⟩
 ·obtain ⟨hs, hy⟩ := k.place (hid o (List.getElem?_eq_some_iff.1 ho).1)
  obtain ⟨_, hy1, rfl⟩ := hy _ (h.ghost ho)
  exact hy1
 ·obtain ⟨o, x, hr, hx, hor⟩ := k.obj ho'
  cases x with
  | arr s1 xs ro =>
   obtain ⟨ys', e, -⟩ := hor
   injection e with e1 e2 e3; subst e1; subst e3
   obtain ⟨⟨xs0, h1⟩, h2⟩ := h.old hx
   have hol := (List.getElem?_eq_some_iff.1 h1).1
   have := k.one hr (hid o hol) rfl
   subst this
   exact ⟨⟨xs0, h1⟩, by rw [(k.place hr).1]; exact h2⟩
  | map es => obtain ⟨_, e, -⟩ := hor; cases e
  | iter s p => cases hor
  | ghost => cases hor
def renOf (n : Nat) (sel : List Nat) : Ren := fun o o' => (o = o' ∧ o < n) ∨ ∃ i j, sel[j]? = some i ∧ o = n + i ∧ o' = n + j
def sigOf (σ : Sig) (n : Nat) (sel : List Nat) : Sig := fun q => if q < n then σ q else σ (n + sel.getD (q - n) 0)
structure Sel (n : Nat) (sel : List Nat) (L L2 : Heap) : Prop where
 len : sel.length = L2.length
 nodup : sel.Nodup
 get : ∀ {i j : Nat}, sel[j]? = some i → ∃ x y, L[i]? = some x ∧ L2[j]? = some y ∧ ORen (renOf n sel) x y
theorem Sel.kpt {n : Nat} {sel : List Nat} {H L L2 : Heap} (hn : H.length = n) (hW : WfH H) (h : Sel n sel L L2) (σ : Sig) : Kpt (renOf n sel) σ (H ++ L) (sigOf σ n sel) (H ++ L2) := by
 subst hn
 have old : ∀ {o : Nat} {y : AObj}, H[o]? = some y → ORen (renOf H.length sel) y y := fun {o y} ho => by
  refine ORen.refl ?_
  have := hW o y ho
  cases y with
  | arr s xs ro =>
   intro x hx
   exact refsL_mono (fun o ho => .inl ⟨rfl, ho⟩) (refsL_of_wf (this x hx))
  | map es => exact ⟨refsL_mono (fun o ho => .inl ⟨rfl, ho⟩) (refsL_of_wf this.1), refsL_mono (fun o ho => .inl ⟨rfl, ho⟩) (refsL_of_wf this.2)⟩
  | iter s p => trivial
  | ghost => trivial
 refine ⟨⟨fun {o o'} hr => ?_⟩, fun {o' y} ho' => ?_, fun {o p o' p'} hr hr' e => ?_⟩
 case refine_1 =>
  rcases hr with ⟨rfl, hl⟩ | ⟨i, j, hj, rfl, rfl⟩
  ·refine ⟨by simp [sigOf, hl], fun x hx => ?_⟩
   rw [List.getElem?_append_left hl] at hx
   exact ⟨x, by rw [List.getElem?_append_left hl]; exact hx, old hx⟩
  ·refine ⟨?_, fun x hx => ?_⟩
   ·have : ¬ H.length + j < H.length := by omega
    simp [sigOf, this, List.getD, hj]
   ·rw [List.getElem?_append_right (by omega), Nat.add_sub_cancel_left] at hx
    obtain ⟨x', y, h1, h2, h3⟩ := h.get hj
    rw [hx] at h1; injection h1 with h1; subst h1
    exact ⟨y, by rw [List.getElem?_append_right (by omega), Nat.add_sub_cancel_left]; exact h2, h3⟩
 ·rw [List.getElem?_append] at ho'
  split at ho'
  ·rename_i hl
   exact ⟨o', y, .inl ⟨rfl, hl⟩, by rw [List.getElem?_append_left hl]; exact ho', old ho'⟩
  ·rename_i hl
   have hjl : o' - H.length < sel.length := by have := (List.getElem?_eq_some_iff.1 ho').1; rw [h.len]; exact this
   obtain ⟨x, y', h1, h2, h3⟩ := h.get (List.getElem?_eq_getElem hjl)
   rw [ho'] at h2; injection h2 with h2; subst h2
   refine ⟨H.length + sel[o' - H.length], x, .inr ⟨_, o' - H.length, List.getElem?_eq_getElem hjl, rfl, by omega⟩, ?_, h3⟩
   rw [List.getElem?_append_right (by omega), Nat.add_sub_cancel_left]; exact h1
 ·subst e
  rcases hr with ⟨rfl, hl⟩ | ⟨i, j, hj, rfl, rfl⟩ <;> rcases hr' with ⟨rfl, hl'⟩ | ⟨i', j', hj', e, rfl⟩
  ·rfl
  ·omega
  ·omega
  ·have : i = i' := by omega
   subst this
   have hlt := (List.getElem?_eq_some_iff.1 hj).1
   have := (List.getElem?_inj hlt h.nodup).1 (hj.trans hj'.symm)
   omega
theorem Sel.inj {n : Nat} {sel : List Nat} {o p o' : Nat} (h1 : renOf n sel o o') (h2 : renOf n sel p o') : o = p := by
 rcases h1 with ⟨rfl, hl⟩ | ⟨i, j, hj, rfl, rfl⟩ <;> rcases h2 with ⟨rfl, hl'⟩ | ⟨i', j', hj', rfl, e⟩
 ·rfl
 ·omega
 ·omega
 ·have : j = j' := by omega
  subst this
  rw [hj] at hj'; injection hj' with hj'; subst hj'; rfl
def Gc (H : Heap) (K : AVal → Heap → Prop) (v : AVal) (H' : Heap) : Prop := ∃ sel L L2 v2, H' = H ++ L ∧ Sel H.length sel L L2 ∧ VRen (renOf H.length sel) v v2 ∧ K v2 (H ++ L2)
theorem ACalls.gc {P : Program} {f : FuncId} {args : List AVal} {H : Heap} {K : AVal → Heap → Prop} (h : ACalls P f args H (Gc H K)) : ACalls P f args H K := by
 intro B σ w vs hR hV
 refine (h B σ w vs hR hV).mono ?_
 rintro e w' ⟨x, σ', v, H', rfl, ⟨sel, L, L2, v2, rfl, hs, hv2, hK⟩, hR', hv, hext, hb⟩
 have k := hs.kpt rfl hR.wf σ'
 exact ⟨x, _, v2, _, rfl, hK, hR'.ren k, hv.ren k.toPlc hv2, hext.ren k (fun o ho => .inl ⟨rfl, ho⟩) (by simp) Sel.inj, hb⟩
theorem ALoop.gc {P : Program} {n0 : Nat} {c : ACode} {Q : Exit → St → Prop} {T T2 : List AVal} {H L L2 : Heap} {sel : List Nat} (hn : n0 ≤ H.length) (hW : WfH H) (hs : Sel H.length sel L L2) (hT : VRens (renOf H.length sel) T T2) (h : ALoop P n0 c Q ⟨T2, H ++ L2⟩) : ALoop P n0 c Q ⟨T, H ++ L⟩ := by
 intro code hok B σ0 H0 w0 σ a w e hh
 have k := hs.kpt rfl hW σ
 exact h code hok B σ0 H0 w0 _ a w e ⟨hh.rel.ren k, hh.tmps.ren k.toPlc hT, hh.ext.ren k (fun o ho => .inl ⟨rfl, by omega⟩) (by simp; omega) Sel.inj, hh.below, hh.defers⟩
end Go.Ax
