/- Reading, writing and making objects of the abstract machine: what stands in the world then. Conditions: none. -/
import Derived.Test.YtlaipllgmddkiaaGreatAxValZ
import Derived.Deep.MidRow
set_option linter.unusedSimpArgs false
set_option linter.unusedVariables false
set_option linter.defProp false
namespace Go.Ax
open Go Go.RowKit
def Alike (H H' : Heap) : Prop := H.length = H'.length ∧ ∀ o : Nat, match (H[o]? : Option AObj), (H'[o]? : Option AObj) with
 | some (.arr s xs ro), some (.arr s' xs' ro') => s = s' ∧ ro = ro' ∧ xs.length = xs'.length
 | some (.map _), some (.map _) => True
 | some (.iter _ _), some (.iter _ _) => True
 | some .ghost, some .ghost => True
 | none, none => True
 | _, _ => False
theorem Alike.ext {H H' : Heap} (h : Alike H H') (σ : Sig) : Ext σ H σ H' := by
 obtain ⟨hl, hk⟩ := h
 refine ⟨⟨Nat.le_of_eq hl, fun {o s xs ro} ho => ?_, fun {o es} ho => ?_, fun {o s p} ho => ?_⟩, fun {o} ho => ?_, fun {o s xs} ho => ?_⟩
 ·have := hk o; rw [ho] at this
  cases hh : H'[o]? with
  | none => simp [hh] at this
  | some x => cases x with
   | arr s' xs' ro' => simp only [hh] at this; obtain ⟨rfl, rfl, hx⟩ := this; exact ⟨xs', rfl, Nat.le_of_eq hx, fun _ => rfl⟩
   | map => simp [hh] at this
   | iter => simp [hh] at this
   | ghost => simp [hh] at this
 ·have := hk o; rw [ho] at this
  cases hh : H'[o]? with
  | none => simp [hh] at this
  | some x => cases x with
   | arr => simp [hh] at this
   | map es' => exact ⟨⟨es', rfl⟩, rfl⟩
   | iter => simp [hh] at this
   | ghost => simp [hh] at this
 ·have := hk o; rw [ho] at this
  cases hh : H'[o]? with
  | none => simp [hh] at this
  | some x => cases x with
   | arr => simp [hh] at this
   | map => simp [hh] at this
   | iter s p => exact ⟨⟨s, p, rfl⟩, rfl⟩
   | ghost => simp [hh] at this
 ·have := hk o; rw [ho] at this
  cases hh : H'[o]? with
  | none => simp [hh] at this
  | some x => cases x with
   | ghost => rfl
   | arr => simp [hh] at this
   | map => simp [hh] at this
   | iter => simp [hh] at this
 ·have := hk o; rw [ho] at this
  cases hh : H[o]? with
  | none => simp [hh] at this
  | some x => cases x with
   | arr s' xs' ro' => simp only [hh] at this; obtain ⟨rfl, rfl, hx⟩ := this; exact ⟨⟨xs', rfl⟩, rfl⟩
   | map => simp [hh] at this
   | iter => simp [hh] at this
   | ghost => simp [hh] at this
theorem Alike.symm {H H' : Heap} (h : Alike H H') : Alike H' H := by
 refine ⟨h.1.symm, fun o => ?_⟩
 have := h.2 o
 revert this
 cases H[o]? with
 | none => cases H'[o]? <;> simp
 | some x => cases H'[o]? with
  | none => cases x <;> simp
  | some y => cases x <;> cases y <;> simp <;> (try (rintro rfl rfl h3; exact ⟨rfl, rfl, h3.symm⟩))
theorem Alike.set_arr {H : Heap} {o s : Nat} {xs xs' : List (List AVal)} {ro : Bool} (ho : H[o]? = some (.arr s xs ro)) (hl : xs.length = xs'.length) : Alike H (H.set o (.arr s xs' ro)) := by
 refine ⟨by simp, fun p => ?_⟩
 by_cases hp : o = p
 ·subst hp
  have : o < H.length := (List.getElem?_eq_some_iff.1 ho).1
  rw [ho, List.getElem?_set_self this]
  exact ⟨rfl, rfl, hl⟩
 ·rw [List.getElem?_set_ne hp]
  cases H[p]? with
  | none => trivial
  | some x => cases x <;> simp
theorem RelO.grow {σ σ' : Sig} {H H' : Heap} (x : Grow σ H σ' H') {B : Nat → Prop} {w w' : World} {p : Place} {ob : AObj} (h : RelO σ H B w p ob) (hw : w'.heap[p.blk]? = w.heap[p.blk]?) : RelO σ' H' B w' p ob := by
 cases ob with
 | arr s xs ro =>
  obtain ⟨h1, h2, h3⟩ := h
  refine ⟨h1, h2, h3.imp id ?_⟩
  rintro ⟨c, e, fr, hb, hc, hn, hr⟩
  exact ⟨c, e, fr, hw.trans hb, fun i x' j a hi hj => let ⟨v, hv, hr⟩ := hc i x' j a hi hj; ⟨v, hv, hr.grow x⟩, hn, hr⟩
 | map es =>
  obtain ⟨h1, ms, clock, hb, hk, hv⟩ := h
  exact ⟨h1, ms, clock, hw.trans hb, hk.grow x, hv.grow x⟩
 | iter s pos => exact ⟨h.1, hw.trans h.2⟩
 | ghost => trivial
theorem RelO.ext {σ σ' : Sig} {H H' : Heap} (x : Ext σ H σ' H') {B : Nat → Prop} {w w' : World} {p : Place} {ob : AObj} (h : RelO σ H B w p ob) (hw : w'.heap[p.blk]? = w.heap[p.blk]?) : RelO σ' H' B w' p ob := RelO.grow x.toGrow h hw
theorem RelH.heap {B : Nat → Prop} {σ : Sig} {H : Heap} {w w' : World} (h : RelH B σ H w) (hw : w'.heap = w.heap) : RelH B σ H w' :=
 ⟨fun ho => (h.obj ho).ext (Ext.refl _ _) (by rw [hw]), h.apart, by rw [hw]; exact h.base⟩
theorem RelH.drew {B : Nat → Prop} {σ : Sig} {H : Heap} {w : World} (h : RelH B σ H w) : RelH B σ H w.drew := h.heap rfl
theorem RelH.read {B : Nat → Prop} {σ : Sig} {H : Heap} {w : World} (h : RelH B σ H w) {o s : Nat} {xs : List (List AVal)} {ro : Bool} (ho : H[o]? = some (.arr s xs ro))
 {i : Nat} {x : List AVal} (hi : xs[i]? = some x) (j k : Nat) (hjk : j + k ≤ x.length) :
 ∃ cs : List Value, cs.length = k ∧ w.rangeAt (σ o).blk ((σ o).off + i * s + j) cs ∧ VRs σ H ((x.drop j).take k) cs := by
 obtain ⟨h1, h2, h3⟩ := h.obj ho
 have hlt : i < xs.length := (List.getElem?_eq_some_iff.1 hi).1
 have hroom : (σ o).room ≠ 0 := by omega
 obtain ⟨c, e, fr, hb, hc, -, -⟩ := h3.resolve_left hroom
 have key : ∀ m, m < k → ∃ v, c[(σ o).off + i * s + (j + m)]? = some v ∧ ∃ a, x[j + m]? = some a ∧ VR σ H a v := by
  intro m hm
  obtain ⟨v, hv, hr⟩ := hc i x (j + m) x[j + m] hi (by simp)
  exact ⟨v, hv, _, by simp, hr⟩
 refine ⟨(List.range k).map fun m => (c[(σ o).off + i * s + (j + m)]?).getD undef, by simp, ?_, ?_⟩
 ·intro m v hv
  simp only [List.getElem?_map, Option.map_eq_some_iff] at hv
  obtain ⟨m', hm', rfl⟩ := hv
  obtain ⟨hm1, rfl⟩ := List.getElem?_eq_some_iff.1 hm'
  simp only [List.length_range] at hm1
  simp only [List.getElem_range]
  obtain ⟨v, hv, -⟩ := key m hm1
  rw [cell_of_row w _ _ c e fr hb, show (σ o).off + i * s + j + m = (σ o).off + i * s + (j + m) by omega, hv]
  rfl
 ·rw [VRs_iff]
  refine ⟨by simp; omega, fun m hm hm' => ?_⟩
  have hmk : m < k := by simpa using hm'
  obtain ⟨v, hv, a, ha, hr⟩ := key m hmk
  simp only [List.getElem_take, List.getElem_drop, List.getElem_map, List.getElem_range, hv, Option.getD_some]
  obtain ⟨_, rfl⟩ := List.getElem?_eq_some_iff.1 ha
  exact hr
theorem RelH.read1 {B : Nat → Prop} {σ : Sig} {H : Heap} {w : World} (h : RelH B σ H w) {o s : Nat} {xs : List (List AVal)} {ro : Bool} (ho : H[o]? = some (.arr s xs ro))
 {i : Nat} {x : List AVal} (hi : xs[i]? = some x) {j : Nat} {a : AVal} (hj : x[j]? = some a) :
 ∃ v, w.cell? ⟨(σ o).blk, (σ o).off + i * s + j, none⟩ = some v ∧ VR σ H a v := by
 obtain ⟨h1, h2, h3⟩ := h.obj ho
 have hlt : i < xs.length := (List.getElem?_eq_some_iff.1 hi).1
 obtain ⟨c, e, fr, hb, hc, -, -⟩ := h3.resolve_left (by omega)
 obtain ⟨v, hv, hr⟩ := hc i x j a hi hj
 exact ⟨v, by rw [cell_of_row w _ _ c e fr hb, hv], hr⟩
theorem idx_ne {s i j i' j' : Nat} (hj : j < s) (hj' : j' < s) (h : i * s + j = i' * s + j') : i = i' ∧ j = j' := by
 have h1 : (i * s + j) / s = i := by rw [Nat.mul_comm, Nat.mul_add_div (by omega)]; simp [Nat.div_eq_of_lt hj]
 have h2 : (i' * s + j') / s = i' := by rw [Nat.mul_comm, Nat.mul_add_div (by omega)]; simp [Nat.div_eq_of_lt hj']
 have e : i = i' := by rw [← h1, h, h2]
 subst e
 exact ⟨rfl, by omega⟩
theorem RelH.write1 {B : Nat → Prop} {σ : Sig} {H : Heap} {w : World} (h : RelH B σ H w) {o s : Nat} {xs : List (List AVal)} (ho : H[o]? = some (.arr s xs false))
 {i : Nat} {x : List AVal} (hi : xs[i]? = some x) {j : Nat} (hj : j < s) {a : AVal} {v : Value} (ha : VR σ H a v) (hc : a.cell = true) :
 RelH B σ (H.set o (.arr s (xs.set i (x.set j a)) false)) (w.setCell ⟨(σ o).blk, i * s + j, none⟩ v) := by
 have hal : Alike H (H.set o (.arr s (xs.set i (x.set j a)) false)) := Alike.set_arr ho (by simp)
 have hx := hal.ext σ
 have hlt : i < xs.length := (List.getElem?_eq_some_iff.1 hi).1
 have holt : o < H.length := (List.getElem?_eq_some_iff.1 ho).1
 obtain ⟨h1, h2, h3⟩ := h.obj ho
 obtain ⟨c, e, fr, hb, hcs, hown, -⟩ := h3.resolve_left (by omega)
 obtain ⟨hB, hoff, hfr, hsz⟩ := hown rfl
 have hxm : x ∈ xs := List.mem_of_getElem? hi
 refine ⟨?_, ?_, fun k hk => by rw [World.size_setCell]; exact h.base k hk⟩
 ·intro p y hp
  by_cases hop : o = p
  ·subst hop
   rw [List.getElem?_set_self holt] at hp
   injection hp with hp; subst hp
   refine ⟨?_, by simpa using h2, .inr ⟨c.setIfInBounds (i * s + j) v, e, fr, ?_, ?_, fun _ => ⟨hB, hoff, hfr, by simpa using hsz⟩, fun hh => by cases hh⟩⟩
   ·intro y hy
    rcases List.mem_or_eq_of_mem_set hy with hy | rfl
    ·exact h1 y hy
    ·obtain ⟨hl, hall⟩ := h1 x hxm
     refine ⟨by simpa using hl, ?_⟩
     rw [List.all_eq_true] at hall ⊢
     intro b hb
     rcases List.mem_or_eq_of_mem_set hb with hb | rfl
     ·exact hall b hb
     ·exact hc
   ·simp [World.setCell, Array.getElem?_modify, hb]
   ·intro i' x' j' a' hi' hj'
    rw [hoff, Nat.zero_add]
    by_cases hii : i = i'
    ·subst hii
     rw [List.getElem?_set_self hlt] at hi'
     injection hi' with hi'; subst hi'
     have hj's : j' < s := by have := (List.getElem?_eq_some_iff.1 hj').1; have hl := (h1 x hxm).1; simp at this; omega
     by_cases hjj : j = j'
     ·subst hjj
      rw [List.getElem?_set_self (by have hl := (h1 x hxm).1; omega)] at hj'
      injection hj' with hj'; subst hj'
      refine ⟨v, ?_, ha.ext hx⟩
      rw [Array.getElem?_setIfInBounds_self]
      have : i * s + j < c.size := by
       rw [hsz]
       calc i * s + j < i * s + s := by omega
        _ = (i + 1) * s := by rw [Nat.add_mul]; simp
        _ ≤ (σ o).room * s := Nat.mul_le_mul_right _ (by omega)
      simp [this]
     ·rw [List.getElem?_set_ne hjj] at hj'
      obtain ⟨u, hu, hr⟩ := hcs i x j' a' hi hj'
      rw [hoff, Nat.zero_add] at hu
      exact ⟨u, by rw [Array.getElem?_setIfInBounds_ne (by omega)]; exact hu, hr.ext hx⟩
    ·rw [List.getElem?_set_ne hii] at hi'
     obtain ⟨u, hu, hr⟩ := hcs i' x' j' a' hi' hj'
     rw [hoff, Nat.zero_add] at hu
     have hj's : j' < s := by have := (List.getElem?_eq_some_iff.1 hj').1; have hl := (h1 x' (List.mem_of_getElem? hi')).1; omega
     exact ⟨u, by rw [Array.getElem?_setIfInBounds_ne (fun hh => hii (idx_ne hj hj's hh).1)]; exact hu, hr.ext hx⟩
  ·rw [List.getElem?_set_ne hop] at hp
   have hrel := h.obj hp
   -- another block, or no block at all
   by_cases hbb : (σ p).blk = (σ o).blk
   ·cases y with
    | arr s' xs' ro' =>
     obtain ⟨k1, k2, k3⟩ := hrel
     by_cases hr0 : (σ p).room = 0
     ·exact ⟨k1, k2, .inl hr0⟩
     ·exfalso
      obtain ⟨c', e', fr', hb', _, ho1, ho2⟩ := k3.resolve_left hr0
      cases ro' with
      | true => exact hB (hbb ▸ ho2 rfl)
      | false =>
       have := h.apart hp ho (by simp [AObj.owns, hr0]) (by simp [AObj.owns]; omega) hbb
       omega
    | map es =>
     exfalso
     obtain ⟨k1, ms, clock, hb', _⟩ := hrel
     rw [hbb, hb] at hb'; cases hb'
    | iter s' p' =>
     exfalso
     obtain ⟨k1, hb'⟩ := hrel
     rw [hbb, hb] at hb'; cases hb'
    | ghost => trivial
   ·exact hrel.ext hx (Below.heap_setCell _ _ _ _ hbb)
 ·intro p p' y y' hp hp' hy hy' hbb
  have back : ∀ {q : Nat} {z : AObj}, (H.set o (.arr s (xs.set i (x.set j a)) false))[q]? = some z → z.owns (σ q) = true → ∃ z', H[q]? = some z' ∧ z'.owns (σ q) = true := by
   intro q z hq hz
   by_cases hop : o = q
   ·subst hop
    rw [List.getElem?_set_self holt] at hq
    injection hq with hq; subst hq
    exact ⟨_, ho, hz⟩
   ·rw [List.getElem?_set_ne hop] at hq
    exact ⟨z, hq, hz⟩
  obtain ⟨z, hz, hz1⟩ := back hp hy
  obtain ⟨z', hz', hz1'⟩ := back hp' hy'
  exact h.apart hz hz' hz1 hz1' hbb
def putAt {α : Type} : List α → Nat → List α → List α
 | x, _, [] => x
 | x, j, a :: r => putAt (x.set j a) (j + 1) r
@[simp] theorem putAt_nil {α : Type} (x : List α) (j : Nat) : putAt x j [] = x := rfl
@[simp] theorem putAt_cons {α : Type} (x : List α) (j : Nat) (a : α) (r : List α) : putAt x j (a :: r) = putAt (x.set j a) (j + 1) r := rfl
theorem putAt_length {α : Type} : ∀ (ys x : List α) (j : Nat), (putAt x j ys).length = x.length
 | [], _, _ => rfl
 | a :: r, x, j => by rw [putAt_cons, putAt_length r]; simp
theorem putAt_eq {α : Type} : ∀ (ys x : List α) (j : Nat), j + ys.length ≤ x.length → putAt x j ys = x.take j ++ ys ++ x.drop (j + ys.length)
 | [], x, j, _ => by simp
 | a :: r, x, j, h => by
  simp only [List.length_cons] at h
  rw [putAt_cons, putAt_eq r (x.set j a) (j + 1) (by simp; omega)]
  have hj : j < x.length := by omega
  have e1 : (x.set j a).take (j + 1) = x.take j ++ [a] := by
   rw [List.set_eq_take_append_cons_drop, if_pos hj, List.take_append, List.take_of_length_le (by simp; omega)]
   have : j + 1 - (List.take j x).length = 1 := by simp; omega
   rw [this]; simp
  have e2 : (x.set j a).drop (j + 1 + r.length) = x.drop (j + (r.length + 1)) := by
   rw [List.drop_set, if_pos (by omega)]; congr 1; omega
  rw [e1, e2]; simp
theorem VRs.putAt {σ : Sig} {H : Heap} : ∀ {ys : List AVal} {vs : List Value} {l : List AVal} {r : List Value} (j : Nat), VRs σ H l r → VRs σ H ys vs → VRs σ H (putAt l j ys) (putAt r j vs)
 | [], [], _, _, _, h, _ => h
 | a :: ys, v :: vs, l, r, j, h, h' => by
  rw [VRs_cons] at h'
  exact VRs.putAt (j + 1) (h.set j h'.1) h'.2
 | [], _ :: _, _, _, _, _, h => by simp [VRs] at h
 | _ :: _, [], _, _, _, _, h => by simp [VRs] at h
theorem RelH.write {B : Nat → Prop} {σ : Sig} {o s : Nat} {i : Nat} : ∀ (ys : List AVal) (cs : List Value) {H : Heap} {w : World} {xs : List (List AVal)} {x : List AVal} (j : Nat),
 RelH B σ H w → H[o]? = some (.arr s xs false) → xs[i]? = some x → j + ys.length ≤ s → VRs σ H ys cs → ys.all AVal.cell = true →
 RelH B σ (H.set o (.arr s (xs.set i (putAt x j ys)) false)) (w.setCells (σ o).blk (i * s + j) cs)
 | [], [], H, w, xs, x, j, h, ho, hi, _, _, _ => by
  have e1 : xs.set i x = xs := by
   obtain ⟨hl, rfl⟩ := List.getElem?_eq_some_iff.1 hi; simp
  have e2 : H.set o (.arr s xs false) = H := by
   obtain ⟨hl, hh⟩ := List.getElem?_eq_some_iff.1 ho; rw [← hh]; simp
  simpa [e1, e2, World.setCells] using h
 | [], _ :: _, _, _, _, _, _, _, _, _, _, hv, _ => by simp [VRs] at hv
 | _ :: _, [], _, _, _, _, _, _, _, _, _, hv, _ => by simp [VRs] at hv
 | a :: ys, v :: cs, H, w, xs, x, j, h, ho, hi, hj, hv, hc => by
  rw [VRs_cons] at hv
  simp only [List.all_cons, Bool.and_eq_true] at hc
  simp only [List.length_cons] at hj
  have h1 := h.write1 ho hi (j := j) (by omega) hv.1 hc.1
  have holt : o < H.length := (List.getElem?_eq_some_iff.1 ho).1
  have hilt : i < xs.length := (List.getElem?_eq_some_iff.1 hi).1
  have hal : Alike H (H.set o (.arr s (xs.set i (x.set j a)) false)) := Alike.set_arr ho (by simp)
  have h2 := RelH.write ys cs (j + 1) h1 (List.getElem?_set_self holt) (List.getElem?_set_self hilt) (by omega) (hv.2.ext (hal.ext σ)) hc.2
  rw [List.set_set, List.set_set] at h2
  simpa only [putAt_cons, World.setCells, Nat.add_assoc] using h2
theorem RelH.there {B : Nat → Prop} {σ : Sig} {H : Heap} {w : World} (h : RelH B σ H w) {o s : Nat} {xs : List (List AVal)} (ho : H[o]? = some (.arr s xs false))
 {i : Nat} (hi : i < xs.length) (j k : Nat) (hjk : j + k ≤ s) : w.there (σ o).blk (i * s + j) k := by
 obtain ⟨h1, h2, h3⟩ := h.obj ho
 obtain ⟨c, e, fr, hb, hcs, hown, -⟩ := h3.resolve_left (by omega)
 obtain ⟨hB, hoff, hfr, hsz⟩ := hown rfl
 intro m hm
 have : i * s + j + m < c.size := by
  rw [hsz]
  calc i * s + j + m < i * s + s := by omega
   _ = (i + 1) * s := by rw [Nat.add_mul]; simp
   _ ≤ (σ o).room * s := Nat.mul_le_mul_right _ (by omega)
 refine ⟨by rw [cell_of_row w _ _ c e fr hb]; simp [this], ?_⟩
 simp [World.frozen?, hb, hfr]
def Sig.upd (σ : Sig) (o : Nat) (p : Place) : Sig := fun q => if q = o then p else σ q
theorem Grow.push (σ : Sig) (H : Heap) (x : AObj) (p : Place) : Grow σ H (σ.upd H.length p) (H ++ [x]) := by
 have hs : ∀ {o} {y : AObj}, H[o]? = some y → (σ.upd H.length p) o = σ o ∧ (H ++ [x])[o]? = some y := by
  intro o y ho
  have : o < H.length := (List.getElem?_eq_some_iff.1 ho).1
  exact ⟨by simp [Sig.upd]; omega, by rw [List.getElem?_append_left this]; exact ho⟩
 exact ⟨by simp, fun ho => ⟨_, (hs ho).2, Nat.le_refl _, fun _ => (hs ho).1⟩, fun ho => ⟨⟨_, (hs ho).2⟩, (hs ho).1⟩, fun ho => ⟨⟨_, _, (hs ho).2⟩, (hs ho).1⟩⟩
theorem Ext.push (σ : Sig) (H : Heap) (x : AObj) (p : Place) (hx : x.isNew = true) : Ext σ H (σ.upd H.length p) (H ++ [x]) := by
 refine ⟨Grow.push σ H x p, fun ho => ?_, fun {o s xs} ho => ?_⟩
 ·rw [List.getElem?_append_left (List.getElem?_eq_some_iff.1 ho).1]; exact ho
 ·rw [List.getElem?_append] at ho
  split at ho
  ·rename_i hl; exact ⟨⟨_, ho⟩, by simp [Sig.upd]; omega⟩
  ·have : AObj.arr s xs true ∈ [x] := List.mem_of_getElem? ho
   simp at this; subst this; cases hx
theorem RelH.push {B : Nat → Prop} {σ : Sig} {H : Heap} {w : World} (h : RelH B σ H w) (x : AObj) (ob : Obj) (room : Nat)
 (hx : RelO (σ.upd H.length ⟨w.heap.size, 0, room⟩) (H ++ [x]) B (w.alloc ob) ⟨w.heap.size, 0, room⟩ x) :
 RelH B (σ.upd H.length ⟨w.heap.size, 0, room⟩) (H ++ [x]) (w.alloc ob) := by
 have hext := Grow.push σ H x ⟨w.heap.size, 0, room⟩
 have hsame : ∀ {o}, o ≠ H.length → (σ.upd H.length ⟨w.heap.size, 0, room⟩) o = σ o := fun ho => by simp [Sig.upd, ho]
 have hself : (σ.upd H.length ⟨w.heap.size, 0, room⟩) H.length = ⟨w.heap.size, 0, room⟩ := by simp [Sig.upd]
 have hlt : ∀ {o y}, H[o]? = some y → y.owns (σ o) = true → (σ o).blk < w.heap.size := by
  intro o y ho hy
  have hr := h.obj ho
  have bl : ∀ {k : Nat} {z : Obj}, w.heap[k]? = some z → k < w.heap.size := fun {k z} hz => by
   rcases Nat.lt_or_ge k w.heap.size with h' | h'
   ·exact h'
   ·simp [Array.getElem?_eq_none h'] at hz
  cases y with
  | arr s xs ro =>
   obtain ⟨-, -, h3⟩ := hr
   simp [AObj.owns] at hy
   obtain ⟨c, e, fr, hb, -⟩ := h3.resolve_left hy.2
   exact bl hb
  | map es => obtain ⟨-, ms, clock, hb, -⟩ := hr; exact bl hb
  | iter s p => obtain ⟨-, hb⟩ := hr; exact bl hb
  | ghost => simp [AObj.owns] at hy
 refine ⟨?_, ?_, fun k hk => by rw [World.size_alloc]; exact Nat.lt_succ_of_lt (h.base k hk)⟩
 ·intro o y ho
  by_cases hol : o = H.length
  ·subst hol
   rw [hself]
   simp at ho; subst ho
   exact hx
  ·rw [hsame hol]
   have ho' : H[o]? = some y := by
    rcases Nat.lt_or_ge o H.length with h' | h'
    ·rwa [List.getElem?_append_left h'] at ho
    ·rw [List.getElem?_eq_none (by simp; omega)] at ho; cases ho
   have hr := h.obj ho'
   by_cases hb : (σ o).blk < w.heap.size
   ·exact hr.grow hext (Below.heap_alloc _ _ _ hb)
   ·have hno : ¬ y.owns (σ o) = true := fun hy => hb (hlt ho' hy)
    cases y with
    | arr s xs ro =>
     obtain ⟨h1, h2, h3⟩ := hr
     rcases h3 with h3 | ⟨c, e, fr, hbb, -⟩
     ·exact ⟨h1, h2, .inl h3⟩
     ·exfalso
      rw [Array.getElem?_eq_none (by omega)] at hbb; cases hbb
    | map es => simp [AObj.owns] at hno
    | iter s p => simp [AObj.owns] at hno
    | ghost => trivial
 ·intro o o' y y' ho ho' hy hy' hbb
  have old : ∀ {q : Nat} {z : AObj}, q ≠ H.length → (H ++ [x])[q]? = some z → H[q]? = some z := by
   intro q z hq hz
   rcases Nat.lt_or_ge q H.length with h' | h'
   ·rwa [List.getElem?_append_left h'] at hz
   ·rw [List.getElem?_eq_none (by simp; omega)] at hz; cases hz
  by_cases h1 : o = H.length <;> by_cases h2 : o' = H.length
  ·omega
  ·subst h1
   rw [hself, hsame h2] at hbb
   rw [hsame h2] at hy'
   have := hlt (old h2 ho') hy'
   simp at hbb; omega
  ·subst h2
   rw [hself, hsame h1] at hbb
   rw [hsame h1] at hy
   have := hlt (old h1 ho) hy
   simp at hbb; omega
  ·rw [hsame h1, hsame h2] at hbb
   rw [hsame h1] at hy
   rw [hsame h2] at hy'
   exact h.apart (old h1 ho) (old h2 ho') hy hy' hbb
end Go.Ax
