/- A slice that is nil, seen as one over an empty object of its own. Conditions: none. -/
import Derived.Test.YtlaipllgmddkiaaGreatAxTacZ
set_option linter.all false
namespace Go.Ax
open Go
theorem RelH.lay {B : Nat → Prop} {σ : Sig} {H : Heap} {w : World} (h : RelH B σ H w) (s : Nat) : RelH B (σ.upd H.length ⟨0, 0, 0⟩) (H ++ [.arr s [] false]) w := by
 have hg := Grow.push σ H (.arr s [] false) ⟨0, 0, 0⟩
 have old : ∀ {q : Nat} {z : AObj}, q ≠ H.length → (H ++ [.arr s [] false])[q]? = some z → H[q]? = some z := by
  intro q z hq hz
  rcases Nat.lt_or_ge q H.length with h' | h'
  ·rwa [List.getElem?_append_left h'] at hz
  ·rw [List.getElem?_eq_none (by simp; omega)] at hz; cases hz
 have new : ∀ {z : AObj}, (H ++ [.arr s [] false])[H.length]? = some z → z = .arr s [] false := by
  intro z hz; simp at hz; exact hz.symm
 refine ⟨fun {o x} ho => ?_, fun {o o' x x'} ho ho' hx hx' hb => ?_, h.base⟩
 ·by_cases e : o = H.length
  ·subst e
   have := new ho; subst this
   exact ⟨by simp, Nat.zero_le _, .inl (by simp [Sig.upd])⟩
  ·have := (h.obj (old e ho)).grow hg (w' := w) rfl
   simpa [Sig.upd, e] using this
 ·have ne : ∀ {q : Nat} {z : AObj}, (H ++ [.arr s [] false])[q]? = some z → z.owns ((σ.upd H.length ⟨0, 0, 0⟩) q) = true → q ≠ H.length := by
   intro q z hq hz e
   subst e
   have := new hq; subst this
   simp [AObj.owns, Sig.upd] at hz
  have e1 := ne ho hx
  have e2 := ne ho' hx'
  simp only [Sig.upd, e1, e2, if_false] at hx hx' hb
  exact h.apart (old e1 ho) (old e2 ho') hx hx' hb
def nilTo (o : Nat) (a b : AVal) : Prop := b = a ∨ (a = .lit (.slice none 0 0) ∧ b = .slice o 0 0 0 false)
theorem VR.nilTo {σ : Sig} {H : Heap} {o s : Nat} {a b : AVal} {v : Value} {ro : Bool} (ho : H[o]? = some (.arr s [] ro)) (h : VR σ H a v) (hn : nilTo o a b) : VR σ H b v := by
 rcases hn with rfl | ⟨rfl, rfl⟩
 ·exact h
 ·simp only [VR] at h ⊢
  exact ⟨s, [], ro, none, 0, ho, by simp, by simp, h, by simp, fun _ => rfl, fun _ => rfl, fun _ => ⟨by simp, fun e => absurd rfl e⟩⟩
theorem VRs.nilTo {σ : Sig} {H : Heap} {o s : Nat} {ro : Bool} (ho : H[o]? = some (.arr s [] ro)) : ∀ (L : List Nat) (f g : Nat → AVal) (vs : List Value), VRs σ H (L.map f) vs → (∀ t, nilTo o (f t) (g t) ∨ g t = .top) → VRs σ H (L.map g) vs
 | [], _, _, [], _, _ => by simp
 | [], _, _, _ :: _, h, _ => by simp [VRs] at h
 | _ :: _, _, _, [], h, _ => by simp [VRs] at h
 | t :: L, f, g, v :: vs, h, hg => by
  rw [List.map_cons, VRs_cons] at h ⊢
  refine ⟨?_, VRs.nilTo ho L f g vs h.2 hg⟩
  rcases hg t with hn | hn
  ·exact h.1.nilTo ho hn
  ·rw [hn]; simp [VR]
theorem ALoop.layT {P : Program} {n0 : Nat} {c : ACode} {Q : Exit → St → Prop} {n : Nat} {l : List (Nat × AVal)} {H : Heap} (s : Nat) {l' : List (Nat × AVal)} (hw : ∀ t, nilTo H.length (tget l t) (tget l' t) ∨ tget l' t = .top)
 (h : ALoop P n0 c Q ⟨mkT n l', H ++ [.arr s [] false]⟩) : ALoop P n0 c Q ⟨mkT n l, H⟩ := by
 intro code hok B σ0 H0 w0 σ a w e hh
 have hx : Ext σ H (σ.upd H.length ⟨0, 0, 0⟩) (H ++ [.arr s [] false]) := Ext.push σ H _ _ rfl
 refine h code hok B σ0 H0 w0 (σ.upd H.length ⟨0, 0, 0⟩) a w e ⟨hh.rel.lay s, ?_, hh.ext.trans hx, hh.below, hh.defers⟩
 exact VRs.nilTo (o := H.length) (s := s) (ro := false) (by simp) _ _ _ _ (hh.tmps.ext hx) hw
theorem ALoop.lay {P : Program} {n0 : Nat} {c : ACode} {Q : Exit → St → Prop} {n d : Nat} {l : List (Nat × AVal)} {H : Heap} (s : Nat)
 (h : ALoop P n0 c Q ⟨mkT n ((d, .slice H.length 0 0 0 false) :: l), H ++ [.arr s [] false]⟩) : ALoop P n0 c Q ⟨mkT n ((d, .lit (.slice none 0 0)) :: l), H⟩ := by
 refine ALoop.layT s (fun t => .inl ?_) h
 simp only [tget]
 split
 ·exact .inr ⟨rfl, rfl⟩
 ·exact .inl rfl
theorem RelH.less {B : Nat → Prop} {σ : Sig} {H : Heap} {w : World} (h : RelH B σ H w) {i s : Nat} {x y : List AVal} {ro : Bool} (hi : H[i]? = some (.arr s [x] ro)) (hl : y.length = x.length) (hc : y.all AVal.cell = true)
 (hv : ∀ (j : Nat) (a b : AVal) (v : Value), x[j]? = some a → y[j]? = some b → VR σ H a v → VR σ H b v) : RelH B σ (H.set i (.arr s [y] ro)) w ∧ Ext σ H σ (H.set i (.arr s [y] ro)) := by
 have hil : i < H.length := (List.getElem?_eq_some_iff.1 hi).1
 have get : ∀ {q : Nat} {z : AObj}, (H.set i (.arr s [y] ro))[q]? = some z → (q = i ∧ z = .arr s [y] ro) ∨ (q ≠ i ∧ H[q]? = some z) := by
  intro q z hq
  rw [List.getElem?_set] at hq
  split at hq
  ·rename_i e; subst e; injection hq with hq; exact .inl ⟨rfl, hq.symm⟩
  ·rename_i e; exact .inr ⟨fun e' => e e'.symm, hq⟩
 have set : ∀ {q : Nat} {z : AObj}, H[q]? = some z → q ≠ i → (H.set i (.arr s [y] ro))[q]? = some z := by
  intro q z hq e; rw [List.getElem?_set_ne (fun e' => e e'.symm)]; exact hq
 have self : (H.set i (.arr s [y] ro))[i]? = some (.arr s [y] ro) := List.getElem?_set_self hil
 have hg : Grow σ H σ (H.set i (.arr s [y] ro)) := by
  refine ⟨by simp, fun {o s' xs ro'} ho => ?_, fun {o es} ho => ?_, fun {o s' p} ho => ?_⟩
  ·by_cases e : o = i
   ·subst e; rw [hi] at ho; injection ho with ho; injection ho with e1 e2 e3; subst e1; subst e2; subst e3
    exact ⟨_, self, by simp, fun _ => rfl⟩
   ·exact ⟨_, set ho e, Nat.le_refl _, fun _ => rfl⟩
  ·by_cases e : o = i
   ·subst e; rw [hi] at ho; cases ho
   ·exact ⟨⟨_, set ho e⟩, rfl⟩
  ·by_cases e : o = i
   ·subst e; rw [hi] at ho; cases ho
   ·exact ⟨⟨_, _, set ho e⟩, rfl⟩
 refine ⟨⟨fun {o z} ho => ?_, fun {o o' z z'} ho ho' hz hz' hb => ?_, h.base⟩, hg, fun {o} ho => ?_, fun {o s' xs} ho => ?_⟩
 ·rcases get ho with ⟨rfl, rfl⟩ | ⟨e, ho⟩
  ·obtain ⟨h1, h2, h3⟩ := h.obj hi
   refine ⟨fun z hz => ?_, h2, h3.imp id ?_⟩
   ·simp at hz; subst hz
    exact ⟨hl.trans (h1 x (by simp)).1, hc⟩
   ·rintro ⟨c, e, fr, hb, hcs, hn, hr⟩
    refine ⟨c, e, fr, hb, fun i' x' j b hi' hj => ?_, hn, hr⟩
    cases i' with
    | zero =>
     simp at hi'; subst hi'
     have hjl : j < x.length := by rw [← hl]; exact (List.getElem?_eq_some_iff.1 hj).1
     obtain ⟨v, q1, q2⟩ := hcs 0 x j x[j] rfl (List.getElem?_eq_getElem hjl)
     exact ⟨v, q1, (hv j _ _ v (List.getElem?_eq_getElem hjl) hj q2).grow hg⟩
    | succ i' => simp at hi'
  ·exact (h.obj ho).grow hg rfl
 ·have back : ∀ {q : Nat} {z : AObj}, (H.set i (.arr s [y] ro))[q]? = some z → z.owns (σ q) = true → ∃ z0, H[q]? = some z0 ∧ z0.owns (σ q) = true := by
   intro q z hq hz
   rcases get hq with ⟨rfl, rfl⟩ | ⟨e, hq⟩
   ·exact ⟨_, hi, hz⟩
   ·exact ⟨_, hq, hz⟩
  obtain ⟨z0, q1, q2⟩ := back ho hz
  obtain ⟨z1, q3, q4⟩ := back ho' hz'
  exact h.apart q1 q3 q2 q4 hb
 ·by_cases e : o = i
  ·subst e; rw [hi] at ho; cases ho
  ·exact set ho e
 ·rcases get ho with ⟨rfl, e⟩ | ⟨e, ho⟩
  ·injection e with e1 e2 e3; subst e1; subst e3
   exact ⟨⟨_, hi⟩, rfl⟩
  ·exact ⟨⟨_, ho⟩, rfl⟩
theorem ALoop.layIn {P : Program} {n0 : Nat} {c : ACode} {Q : Exit → St → Prop} {T : List AVal} {H : Heap} {i k : Nat} {x : List AVal} {ro : Bool} (s : Nat) (y : List AVal) (hi : H[i]? = some (.arr k [x] ro)) (hl : y.length = x.length) (hc : y.all AVal.cell = true)
 (hy : ∀ (j : Nat) (a b : AVal), x[j]? = some a → y[j]? = some b → nilTo H.length a b) (h : ALoop P n0 c Q ⟨T, H.set i (.arr k [y] ro) ++ [.arr s [] false]⟩) : ALoop P n0 c Q ⟨T, H⟩ := by
 intro code hok B σ0 H0 w0 σ a w e hh
 have hx : Ext σ H (σ.upd H.length ⟨0, 0, 0⟩) (H ++ [.arr s [] false]) := Ext.push σ H _ _ rfl
 have hil : i < H.length := (List.getElem?_eq_some_iff.1 hi).1
 have hi' : (H ++ [.arr s [] false])[i]? = some (.arr k [x] ro) := by rw [List.getElem?_append_left hil]; exact hi
 obtain ⟨r1, r2⟩ := (hh.rel.lay s).less hi' hl hc (fun j a b v ha hb hv => hv.nilTo (o := H.length) (s := s) (ro := false) (by simp) (hy j a b ha hb))
 have e1 : (H ++ [AObj.arr s [] false]).set i (.arr k [y] ro) = H.set i (.arr k [y] ro) ++ [AObj.arr s [] false] := List.set_append_left _ _ hil
 rw [e1] at r1 r2
 exact h code hok B σ0 H0 w0 _ a w e ⟨r1, (hh.tmps.ext hx).ext r2, (hh.ext.trans hx).trans r2, hh.below, hh.defers⟩
def fill1 (o : Nat) : AVal → AVal
 | .lit (.slice none 0 0) => .slice o 0 0 0 false
 | a => a
def fillN (o : Nat) : AVal → AVal
 | .agg l => .agg (l.map (fill1 o))
 | a => fill1 o a
theorem fill1_nilTo (o : Nat) (a : AVal) : nilTo o a (fill1 o a) := by
 unfold Go.Ax.fill1
 split
 ·exact .inr ⟨rfl, rfl⟩
 ·exact .inl rfl
theorem VRs.fill1 {σ : Sig} {H : Heap} {o s : Nat} {ro : Bool} (ho : H[o]? = some (.arr s [] ro)) : ∀ (l : List AVal) (vs : List Value), VRs σ H l vs → VRs σ H (l.map (fill1 o)) vs
 | [], [], _ => by simp
 | [], _ :: _, h => by simp [VRs] at h
 | _ :: _, [], h => by simp [VRs] at h
 | a :: l, v :: vs, h => by
  rw [List.map_cons, VRs_cons] at *
  exact ⟨h.1.nilTo ho (fill1_nilTo o a), VRs.fill1 ho l vs h.2⟩
theorem VR.fillN {σ : Sig} {H : Heap} {o s : Nat} {ro : Bool} (ho : H[o]? = some (.arr s [] ro)) {a : AVal} {v : Value} (h : VR σ H a v) : VR σ H (fillN o a) v := by
 unfold Go.Ax.fillN
 split
 ·simp only [VR] at h ⊢
  obtain ⟨h1, cs, rfl, hc⟩ := h
  refine ⟨?_, cs, rfl, VRs.fill1 ho _ _ hc⟩
  rw [List.all_eq_true] at h1 ⊢
  intro y hy
  obtain ⟨x, hx, rfl⟩ := List.mem_map.1 hy
  rcases fill1_nilTo o x with e | ⟨-, e⟩
  ·rw [e]; exact h1 x hx
  ·rw [e]; rfl
 ·exact h.nilTo ho (fill1_nilTo o _)
theorem VRs.fillN {σ : Sig} {H : Heap} {o s : Nat} {ro : Bool} (ho : H[o]? = some (.arr s [] ro)) : ∀ (l : List AVal) (vs : List Value), VRs σ H l vs → VRs σ H (l.map (fillN o)) vs
 | [], [], _ => by simp
 | [], _ :: _, h => by simp [VRs] at h
 | _ :: _, [], h => by simp [VRs] at h
 | a :: l, v :: vs, h => by
  rw [List.map_cons, VRs_cons] at *
  exact ⟨h.1.fillN ho, VRs.fillN ho l vs h.2⟩
theorem ACalls.lay {P : Program} {f : FuncId} {args : List AVal} {H : Heap} {K : AVal → Heap → Prop} (s : Nat) (h : ACalls P f (args.map (Go.Ax.fillN H.length)) (H ++ [.arr s [] false]) K) : ACalls P f args H K := by
 intro B σ w vs hR hV
 have hx : Ext σ H (σ.upd H.length ⟨0, 0, 0⟩) (H ++ [.arr s [] false]) := Ext.push σ H _ _ rfl
 refine (h B _ w vs (hR.lay s) ((hV.ext hx).fillN (o := H.length) (s := s) (ro := false) (by simp))).mono ?_
 rintro e w' ⟨x, σ', v, H', rfl, hK, hR', hv, he, hb⟩
 exact ⟨x, σ', v, H', rfl, hK, hR', hv, hx.trans he, hb⟩
theorem ACalls.nilCase {P : Program} {f : FuncId} {H : Heap} {K : AVal → Heap → Prop} {o p s s' : Nat} {ro ro' fl : Bool} {x : List AVal} {xs : List (List AVal)} (ho : H[o]? = some (.arr s [] ro)) (hp : H[p]? = some (.arr s' (x :: xs) ro'))
 (h1 : ACalls P f [.lit (.slice none 0 0)] H K) (h2 : ACalls P f [.isl p 0 0 0 0] H K) : ACalls P f [.slice o 0 0 0 fl] H K := by
 intro B σ w vs hR hV
 cases vs with
 | nil => cases hV
 | cons v vs => cases vs with
  | cons _ _ => cases hV.2
  | nil =>
   have hx := hV.1
   simp only [VR] at hx
   obtain ⟨s, ys, ro, a, cap, hxo, hn, hst, rfl, hcap, hfull, hnil, hroom⟩ := hx
   cases a with
   | none =>
    have hc := hnil rfl
    subst hc
    exact h1 B σ w _ hR ⟨by simp [VR], trivial⟩
   | some a => exact h2 B σ w _ hR ⟨by simp only [VR]; exact ⟨s', x :: xs, ro', a, cap, hp, Nat.zero_le _, rfl, hcap, fun h => by simp at h⟩, trivial⟩
end Go.Ax
