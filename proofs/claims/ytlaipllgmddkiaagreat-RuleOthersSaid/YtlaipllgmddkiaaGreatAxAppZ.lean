/- 'append' tells true. Conditions: none. -/
import Derived.Test.YtlaipllgmddkiaaGreatAxMakeZ
set_option linter.all false
namespace Go.Ax
open Go Go.RowKit
theorem heap_setCells (b : Nat) : ∀ (vs : List Value) (off : Nat) (w : World) (c : Array Value) (e : TypeId) (fr : Nat × Nat), w.heap[b]? = some (.cells c e fr) →
 (w.setCells b off vs).heap[b]? = some (.cells (putAt c.toList off vs).toArray e fr)
 | [], off, w, c, e, fr, h => by simpa [World.setCells] using h
 | v :: vs, off, w, c, e, fr, h => by
  rw [World.setCells]
  have h1 : (w.setCell ⟨b, off, none⟩ v).heap[b]? = some (.cells (c.setIfInBounds off v) e fr) := by simp [World.setCell, Array.getElem?_modify, h]
  rw [heap_setCells b vs (off + 1) _ _ e fr h1]
  simp
theorem heap_setCells_other (b k : Nat) (hk : k ≠ b) : ∀ (vs : List Value) (off : Nat) (w : World), (w.setCells b off vs).heap[k]? = w.heap[k]?
 | [], _, _ => rfl
 | v :: vs, off, w => by
  rw [World.setCells, heap_setCells_other b k hk vs (off + 1)]
  exact Below.heap_setCell _ _ _ _ hk
theorem size_setCells (b : Nat) : ∀ (vs : List Value) (off : Nat) (w : World), (w.setCells b off vs).heap.size = w.heap.size
 | [], _, _ => rfl
 | v :: vs, off, w => by rw [World.setCells, size_setCells b vs (off + 1), World.size_setCell]
theorem below_setCells {B : Nat → Prop} {b : Nat} {w0 : World} (hB : ¬ B b) : ∀ (vs : List Value) (off : Nat) (w : World), Kept B w0 w → Kept B w0 (w.setCells b off vs)
 | [], _, _, h => h
 | v :: vs, off, w, h => below_setCells hB vs (off + 1) _ (h.setCell (p := ⟨b, off, none⟩) hB v)
section steps
variable {P : Program} {B : Nat → Prop} {σ : Sig} {H H' : Heap} {w : World} {T : List AVal} {a : Act} {o : Oper} {v : AVal}
theorem Ext.grow {ob s : Nat} {xs xs' : List (List AVal)} (ho : H[ob]? = some (.arr s xs false)) (σ' : Sig) (hs : ∀ q, q ≠ ob → σ' q = σ q) (hl : xs.length < xs'.length ∨ (xs.length = xs'.length ∧ σ' ob = σ ob)) :
 Ext σ H σ' (H.set ob (.arr s xs' false)) := by
 have holt : ob < H.length := (List.getElem?_eq_some_iff.1 ho).1
 refine ⟨⟨by simp, fun {q s1 x1 r1} hq => ?_, fun {q es} hq => ?_, fun {q s1 p1} hq => ?_⟩, fun {q} hq => ?_, fun {q s1 x1} hq => ?_⟩
 ·by_cases e : ob = q
  ·subst e
   rw [ho] at hq; injection hq with hq; injection hq with g1 g2 g3; subst g1; subst g2; subst g3
   refine ⟨xs', List.getElem?_set_self holt, by omega, fun e => ?_⟩
   rcases hl with hl | hl
   ·omega
   ·exact hl.2
  ·exact ⟨x1, by rw [List.getElem?_set_ne e]; exact hq, Nat.le_refl _, fun _ => hs q (Ne.symm e)⟩
 ·have e : ob ≠ q := fun e => by subst e; rw [ho] at hq; cases hq
  exact ⟨⟨es, by rw [List.getElem?_set_ne e]; exact hq⟩, hs q (Ne.symm e)⟩
 ·have e : ob ≠ q := fun e => by subst e; rw [ho] at hq; cases hq
  exact ⟨⟨s1, p1, by rw [List.getElem?_set_ne e]; exact hq⟩, hs q (Ne.symm e)⟩
 ·have e : ob ≠ q := fun e => by subst e; rw [ho] at hq; cases hq
  rw [List.getElem?_set_ne e]; exact hq
 ·have e : ob ≠ q := fun e => by subst e; rw [List.getElem?_set_self holt] at hq; cases hq
  rw [List.getElem?_set_ne e] at hq
  exact ⟨⟨_, hq⟩, hs q (Ne.symm e)⟩
theorem blk_lt (h : RelH B σ H w) {q : Nat} {y : AObj} (hq : H[q]? = some y) (hy : y.owns (σ q) = true) : (σ q).blk < w.heap.size := by
 have hr := h.obj hq
 have bl : ∀ {k : Nat} {z : Obj}, w.heap[k]? = some z → k < w.heap.size := fun {k z} hz => by
  rcases Nat.lt_or_ge k w.heap.size with h' | h'
  ·exact h'
  ·simp [Array.getElem?_eq_none h'] at hz
 cases y with
 | arr s xs ro =>
  obtain ⟨-, -, h3⟩ := hr
  simp [AObj.owns] at hy
  obtain ⟨c, e, fr, hb, -⟩ := h3.resolve_left hy.2
  exact bl hb
 | map es => obtain ⟨-, ms, clock, hb, -⟩ := hr; exact bl hb
 | iter s p => obtain ⟨-, hb⟩ := hr; exact bl hb
 | ghost => simp [AObj.owns] at hy
theorem RelH.regrow (h : RelH B σ H w) {ob s : Nat} {xs xs' : List (List AVal)} (ho : H[ob]? = some (.arr s xs false)) (hlt : xs.length < xs'.length) (room : Nat) (c : Array Value) (e : TypeId)
 (hl : ∀ x ∈ xs', x.length = s ∧ x.all AVal.cell = true) (hroom : xs'.length ≤ room) (hc : c.size = room * s) (hv : VRs σ H xs'.flatten (c.toList.take (xs'.length * s))) :
 RelH B (σ.upd ob ⟨w.heap.size, 0, room⟩) (H.set ob (.arr s xs' false)) (w.alloc (.cells c e)) := by
 have holt : ob < H.length := (List.getElem?_eq_some_iff.1 ho).1
 have hsame : ∀ {q}, q ≠ ob → (σ.upd ob ⟨w.heap.size, 0, room⟩) q = σ q := fun hq => by simp [Sig.upd, hq]
 have hself : (σ.upd ob ⟨w.heap.size, 0, room⟩) ob = ⟨w.heap.size, 0, room⟩ := by simp [Sig.upd]
 have hext : Ext σ H (σ.upd ob ⟨w.heap.size, 0, room⟩) (H.set ob (.arr s xs' false)) := Ext.grow ho _ (fun q hq => hsame hq) (.inl hlt)
 refine ⟨?_, ?_, fun k hk => by rw [World.size_alloc]; exact Nat.lt_succ_of_lt (h.base k hk)⟩
 ·intro q y hq
  by_cases e1 : ob = q
  ·subst e1
   rw [List.getElem?_set_self holt] at hq
   injection hq with hq; subst hq
   rw [hself]
   refine ⟨hl, hroom, .inr ⟨c, e, (0, 0), by show (w.heap.push _)[w.heap.size]? = _; simp, ?_, fun _ => ⟨h.fresh, rfl, rfl, hc⟩, fun hh => by cases hh⟩⟩
   intro i x j y hi hj
   have hg := flat_get s xs' (fun x hx => (hl x hx).1) i x j y hi hj
   obtain ⟨u, hu, hr⟩ := hv.get hg
   refine ⟨u, ?_, hr.ext hext⟩
   rw [List.getElem?_take] at hu
   split at hu
   ·rw [Nat.zero_add, ← Array.getElem?_toList]; exact hu
   ·cases hu
  ·rw [List.getElem?_set_ne e1] at hq
   rw [hsame (Ne.symm e1)]
   have hr := h.obj hq
   by_cases hb : (σ q).blk < w.heap.size
   ·exact hr.ext hext (Below.heap_alloc _ _ _ hb)
   ·have hno : ¬ y.owns (σ q) = true := fun hy => hb (blk_lt h hq hy)
    cases y with
    | arr s xs ro =>
     obtain ⟨h1, h2, h3⟩ := hr
     rcases h3 with h3 | ⟨c, e, fr, hbb, -⟩
     ·exact ⟨h1, h2, .inl h3⟩
     ·exfalso
      rw [Array.getElem?_eq_none (by omega)] at hbb; cases hbb
    | map es => simp [AObj.owns] at hno
    | iter s p => simp [AObj.owns] at hno
    | ghost => trivial
 ·intro p p' y y' hp hp' hy hy' hbb
  have old : ∀ {q : Nat} {z : AObj}, q ≠ ob → (H.set ob (.arr s xs' false))[q]? = some z → H[q]? = some z := by
   intro q z hq hz
   rwa [List.getElem?_set_ne (Ne.symm hq)] at hz
  by_cases e1 : p = ob <;> by_cases e2 : p' = ob
  ·omega
  ·subst e1
   rw [hself, hsame e2] at hbb
   rw [hsame e2] at hy'
   have := blk_lt h (old e2 hp') hy'
   simp at hbb; omega
  ·subst e2
   rw [hself, hsame e1] at hbb
   rw [hsame e1] at hy
   have := blk_lt h (old e1 hp) hy
   simp at hbb; omega
  ·rw [hsame e1, hsame e2] at hbb
   rw [hsame e1] at hy
   rw [hsame e2] at hy'
   exact h.apart (old e1 hp) (old e2 hp') hy hy' hbb
theorem RelH.inplace (h : RelH B σ H w) {ob s : Nat} {xs ys : List (List AVal)} (ho : H[ob]? = some (.arr s xs false)) (hy : ∀ x ∈ ys, x.length = s ∧ x.all AVal.cell = true)
 (hroom : xs.length + ys.length ≤ (σ ob).room) (hr0 : (σ ob).room ≠ 0) {news : List Value} (hv : VRs σ H ys.flatten news) :
 RelH B σ (H.set ob (.arr s (xs ++ ys) false)) (w.setCells (σ ob).blk (xs.length * s) news) := by
 have holt : ob < H.length := (List.getElem?_eq_some_iff.1 ho).1
 have hext : Ext σ H σ (H.set ob (.arr s (xs ++ ys) false)) := Ext.grow ho _ (fun q hq => rfl) (by
  cases ys with
  | nil => exact .inr ⟨by simp, rfl⟩
  | cons y ys => exact .inl (by simp))
 obtain ⟨h1, h2, h3⟩ := h.obj ho
 obtain ⟨c, e, fr, hb, hcs, hown, -⟩ := h3.resolve_left hr0
 obtain ⟨hB, hoff, hfr, hsz⟩ := hown rfl
 have hxl := flat_length s xs (fun x hx => (h1 x hx).1)
 have hyl := flat_length s ys (fun x hx => (hy x hx).1)
 have hnl : news.length = ys.length * s := by rw [← hv.length, hyl]
 have hle : xs.length * s + ys.length * s ≤ c.size := by rw [hsz, ← Nat.add_mul]; exact Nat.mul_le_mul_right _ hroom
 refine ⟨?_, ?_, fun k hk => by rw [size_setCells]; exact h.base k hk⟩
 ·intro q y hq
  by_cases e1 : ob = q
  ·subst e1
   rw [List.getElem?_set_self holt] at hq
   injection hq with hq; subst hq
   refine ⟨?_, by simpa using hroom, .inr ⟨(putAt c.toList (xs.length * s) news).toArray, e, fr, heap_setCells _ _ _ _ _ _ _ hb, ?_, fun _ => ⟨hB, hoff, hfr, by simp [putAt_length, hsz]⟩, fun hh => by cases hh⟩⟩
   ·intro x hx
    rcases List.mem_append.1 hx with hx | hx
    ·exact h1 x hx
    ·exact hy x hx
   ·intro i x j u hi hj
    rw [hoff, Nat.zero_add, List.getElem?_toArray, putAt_eq _ _ _ (by rw [hnl]; simpa using hle)]
    rw [List.getElem?_append] at hi
    split at hi
    ·rename_i hlt
     obtain ⟨v, hv, hr⟩ := hcs i x j u hi hj
     rw [hoff, Nat.zero_add] at hv
     have hjs : j < s := by have := (List.getElem?_eq_some_iff.1 hj).1; rw [(h1 x (List.mem_of_getElem? hi)).1] at this; exact this
     have hij : i * s + j < xs.length * s := by
      calc i * s + j < i * s + s := by omega
       _ = (i + 1) * s := by rw [Nat.add_mul]; simp
       _ ≤ xs.length * s := Nat.mul_le_mul_right _ hlt
     refine ⟨v, ?_, hr.ext hext⟩
     rw [List.append_assoc, List.getElem?_append_left (by simp; omega), List.getElem?_take, if_pos hij, Array.getElem?_toList]
     exact hv
    ·rename_i hge
     have hg := flat_get s ys (fun x hx => (hy x hx).1) _ x j u hi hj
     obtain ⟨v, hv', hr⟩ := hv.get hg
     have hilt : i - xs.length < ys.length := (List.getElem?_eq_some_iff.1 hi).1
     have hjs : j < s := by have := (List.getElem?_eq_some_iff.1 hj).1; rw [(hy x (List.mem_of_getElem? hi)).1] at this; exact this
     have e2 : i * s + j = xs.length * s + ((i - xs.length) * s + j) := by
      have : i = xs.length + (i - xs.length) := by omega
      conv => lhs; rw [this, Nat.add_mul]
      omega
     have hlt2 := (List.getElem?_eq_some_iff.1 hv').1
     refine ⟨v, ?_, hr.ext hext⟩
     have hl1 : (c.toList.take (xs.length * s)).length = xs.length * s := by simp; omega
     rw [e2, List.append_assoc, List.getElem?_append_right (by omega), hl1, Nat.add_sub_cancel_left, List.getElem?_append_left hlt2]
     exact hv'
  ·rw [List.getElem?_set_ne e1] at hq
   have hrel := h.obj hq
   by_cases hbb : (σ q).blk = (σ ob).blk
   ·cases y with
    | arr s' xs' ro' =>
     obtain ⟨k1, k2, k3⟩ := hrel
     by_cases hrr : (σ q).room = 0
     ·exact ⟨k1, k2, .inl hrr⟩
     ·exfalso
      obtain ⟨c', e', fr', hb', _, ho1, ho2⟩ := k3.resolve_left hrr
      cases ro' with
      | true => exact hB (hbb ▸ ho2 rfl)
      | false =>
       have := h.apart hq ho (by simp [AObj.owns, hrr]) (by simp [AObj.owns, hr0]) hbb
       omega
    | map es =>
     exfalso
     obtain ⟨k1, ms, clock, hb', _⟩ := hrel
     rw [hbb, hb] at hb'; cases hb'
    | iter s' p' =>
     exfalso
     obtain ⟨k1, hb'⟩ := hrel
     rw [hbb, hb] at hb'; cases hb'
    | ghost => trivial
   ·exact hrel.ext hext (heap_setCells_other _ _ hbb _ _ _)
 ·intro p p' y y' hp hp' hy1 hy1' hbb
  have back : ∀ {q : Nat} {z : AObj}, (H.set ob (.arr s (xs ++ ys) false))[q]? = some z → z.owns (σ q) = true → ∃ z' : AObj, H[q]? = some z' ∧ z'.owns (σ q) = true := by
   intro q z hq hz
   by_cases hop : ob = q
   ·subst hop
    rw [List.getElem?_set_self holt] at hq
    injection hq with hq; subst hq
    exact ⟨_, ho, hz⟩
   ·rw [List.getElem?_set_ne hop] at hq
    exact ⟨z, hq, hz⟩
  obtain ⟨z, hz, hz1⟩ := back hp hy1
  obtain ⟨z', hz', hz1'⟩ := back hp' hy1'
  exact h.apart hz hz' hz1 hz1' hbb
theorem RelH.readAll (h : RelH B σ H w) {ob s : Nat} {xs : List (List AVal)} {ro : Bool} (ho : H[ob]? = some (.arr s xs ro)) (st : Nat) : ∀ (len : Nat), st + len ≤ xs.length →
 ∃ news : List Value, news.length = len * s ∧ w.rangeAt (σ ob).blk ((σ ob).off + st * s) news ∧ VRs σ H ((xs.drop st).take len).flatten news
 | 0, _ => ⟨[], by simp, fun j v hv => by simp at hv, by simp⟩
 | len + 1, hle => by
  obtain ⟨news, h1, h2, h3⟩ := RelH.readAll h ho st len (by omega)
  have hlt : st + len < xs.length := by omega
  obtain ⟨hx1, hx2, -⟩ := h.obj ho
  have hxs : xs[st + len].length = s := (hx1 _ (List.getElem_mem hlt)).1
  obtain ⟨cs, g1, g2, g3⟩ := h.read ho (List.getElem?_eq_getElem hlt) 0 s (by omega)
  refine ⟨news ++ cs, by simp [h1, g1, Nat.add_mul], ?_, ?_⟩
  ·intro j v hv
   rw [List.getElem?_append] at hv
   split at hv
   ·exact h2 j v hv
   ·rename_i hge
    have := g2 (j - news.length) v hv
    rw [← this]
    congr 2
    rw [h1] at hge ⊢
    rw [Nat.add_mul]; omega
  ·have e : (xs.drop st).take (len + 1) = (xs.drop st).take len ++ [xs[st + len]] := by
    rw [List.take_succ_eq_append_getElem (by simp; omega)]; simp
   rw [e, List.flatten_append]
   refine h3.append ?_
   rw [List.drop_zero, List.take_of_length_le (by omega)] at g3
   simpa using g3
theorem src_of {size : Nat} {tx : TypeId} {A : AVal} {X : Value} {ys : List (List AVal)} (hk : (∃ e', P.underlying tx = some (.slice e')) ∨ P.underlying tx = some .string) (h : RelH B σ H w) (hX : VR σ H A X)
 (ht : takeCells H size A = some ys) (hs : size ≠ 0) : ∃ news, Src P size tx X ys.length news w ∧ VRs σ H ys.flatten news ∧ (∀ y ∈ ys, y.length = size ∧ y.all AVal.cell = true) := by
 have one : ∀ {l : List AVal} {news : List Value}, VRs σ H l news → l.all AVal.cell = true → ∀ u ∈ news, u.oneCell' = true := by
  intro l news hv hc u hu
  obtain ⟨k, hk, rfl⟩ := List.mem_iff_getElem.1 hu
  have hl := hv.length
  have := ((VRs_iff.1 hv).2 k (by omega) hk).oneCell ((List.all_eq_true.1 hc) _ (List.getElem_mem (by omega)))
  revert this
  cases news[k] <;> simp [cellB, Value.oneCell']
 have flatc : ∀ {ys : List (List AVal)}, (∀ y ∈ ys, y.length = size ∧ y.all AVal.cell = true) → ys.flatten.all AVal.cell = true := by
  intro ys hy
  rw [List.all_eq_true]
  intro z hz
  obtain ⟨y, hy1, hy2⟩ := List.mem_flatten.1 hz
  exact (List.all_eq_true.1 (hy y hy1).2) z hy2
 have slc : ∀ (ad : Addr) (n cap : Nat) (news : List Value) (ys : List (List AVal)), X = .slice (some ad) n cap → ys.length = n → news.length = n * size → (∀ j u, news[j]? = some u → w.cell? (ad.add j) = some u) →
  VRs σ H ys.flatten news → (∀ y ∈ ys, y.length = size ∧ y.all AVal.cell = true) → ∃ news, Src P size tx X ys.length news w ∧ VRs σ H ys.flatten news ∧ (∀ y ∈ ys, y.length = size ∧ y.all AVal.cell = true) := by
  intro ad n cap news ys hX hn hnl hc hv hy
  subst hX; subst hn
  exact ⟨news, ⟨hk, fun _ => rfl, run_firstCells_some w size _ ad _ cap news hnl hc, run_firstCells_some w.drew size _ ad _ cap news hnl (by simpa using hc), hnl, one hv (flatc hy)⟩, hv, hy⟩
 have nil : X = .slice none 0 0 → ∃ news, Src P size tx X ([] : List (List AVal)).length news w ∧ VRs σ H ([] : List (List AVal)).flatten news ∧ (∀ y ∈ ([] : List (List AVal)), y.length = size ∧ y.all AVal.cell = true) := by
  rintro rfl
  exact ⟨[], ⟨hk, fun _ => rfl, run_firstCells_none w size 0 0 0, run_firstCells_none w.drew size 0 0 0, by simp, fun _ h => by cases h⟩, by simp, fun _ h => by cases h⟩
 unfold takeCells at ht
 split at ht
 ·rename_i ob n st len full
  split at ht
  case h_2 => cases ht
  rename_i s xs ro ho
  split at ht
  case isFalse => cases ht
  rename_i hb
  obtain ⟨hl, rfl⟩ := hb
  injection ht with ht; subst ht
  simp only [VR] at hX
  obtain ⟨s', xs', ro', ad, cap, ho', hn, hst, hv, hc, hf, hnn, ha⟩ := hX
  rw [ho] at ho'; injection ho' with ho'; injection ho' with g1 g2 g3; subst g1; subst g2; subst g3
  cases ad with
  | none =>
   have hc0 := hnn rfl
   have hl0 : len = 0 := by omega
   subst hc0; subst hl0
   simpa using nil hv
  | some ad =>
  obtain ⟨hx1, hx2, -⟩ := h.obj ho
  obtain ⟨news, h1, h2, h3⟩ := h.readAll ho st len (by omega)
  have hyy : ∀ y ∈ (xs.drop st).take len, y.length = s ∧ y.all AVal.cell = true := fun y hy => hx1 y (List.mem_of_mem_drop (List.mem_of_mem_take hy))
  refine slc ad len cap news _ hv (by simp; omega) h1 ?_ h3 hyy
  intro j u hu
  by_cases h0 : cap = 0
  ·have : news.length = 0 := by rw [h1]; have : len = 0 := by omega
                                simp [this]
   have := (List.getElem?_eq_some_iff.1 hu).1
   omega
  ·have had := (ha hl).2 h0
   injection had with had; subst had
   rw [Addr_add']; exact h2 j u hu
 ·rename_i ob n
  split at ht
  case h_2 => cases ht
  rename_i s xs ro ho
  split at ht
  case isFalse => cases ht
  rename_i hb
  obtain ⟨hl, rfl⟩ := hb
  injection ht with ht; subst ht
  simp only [VR] at hX
  obtain ⟨s', xs', ro', ho', hn, h0, hX⟩ := hX
  rw [ho] at ho'; injection ho' with ho'; injection ho' with g1 g2 g3; subst g1; subst g2; subst g3
  by_cases hz : n = 0
  ·have : xs = [] := List.eq_nil_of_length_eq_zero (by omega)
   subst this
   exact nil (h0 hz)
  ·obtain ⟨ad, cap, hv, hc, ha⟩ := hX hz
   obtain ⟨hx1, hx2, -⟩ := h.obj ho
   obtain ⟨news, h1, h2, h3⟩ := h.readAll ho 0 n (by omega)
   rw [List.drop_zero, List.take_of_length_le (by omega)] at h3
   refine slc ad n cap news xs hv hl h1 ?_ h3 hx1
   intro j u hu
   rw [(ha hl).2, Addr_add']
   have := h2 j u hu
   simpa using this
 ·rename_i ob n i j len
  split at ht
  case h_2 => cases ht
  rename_i s xs ro ho
  split at ht
  case isFalse =>
   split at ht
   case isFalse => cases ht
   rename_i hl0
   injection ht with ht; subst ht; subst hl0
   simp only [VR] at hX
   obtain ⟨s', xs', ro', ad, cap, ho', hn, hv, hc, ha⟩ := hX
   exact slc ad 0 cap [] [] hv rfl (by simp) (fun j u hu => by simp at hu) (by simp) (fun y hy => by cases hy)
  rename_i hb
  obtain ⟨hl, rfl⟩ := hb
  split at ht
  case h_2 => cases ht
  rename_i x hx
  injection ht with ht; subst ht
  simp only [VR] at hX
  obtain ⟨s', xs', ro', ad, cap, ho', hn, hv, hc, ha⟩ := hX
  rw [ho] at ho'; injection ho' with ho'; injection ho' with g1 g2 g3; subst g1; subst g2; subst g3
  obtain ⟨hx1, hx2, -⟩ := h.obj ho
  have hxl := (hx1 x (List.mem_of_getElem? hx))
  obtain ⟨hi, hjc, had⟩ := ha hl
  obtain ⟨news, h1, h2, h3⟩ := h.read ho hx j len (by omega)
  have hfl : (List.map (fun a => [a]) (List.take len (List.drop j x))).flatten = (x.drop j).take len := by
   generalize List.take len (List.drop j x) = l
   induction l with
   | nil => rfl
   | cons y l ih => simp [ih]
  refine slc ad len cap news _ hv (by simp; omega) (by omega) ?_ (by rw [hfl]; exact h3) ?_
  ·intro k u hu
   by_cases h0 : cap = 0
   ·have := (List.getElem?_eq_some_iff.1 hu).1
    omega
   ·rw [had h0, Addr_add']; exact h2 k u hu
  ·intro y hy
   obtain ⟨z, hz, rfl⟩ := List.mem_map.1 hy
   refine ⟨rfl, ?_⟩
   have := (List.all_eq_true.1 hxl.2) z (List.mem_of_mem_drop (List.mem_of_mem_take hz))
   simp [this]
 ·injection ht with ht; subst ht
  simp only [VR] at hX
  exact nil hX
 ·rename_i s
  split at ht
  case isFalse => cases ht
  rename_i h1
  subst h1
  injection ht with ht; subst ht
  simp only [VR] at hX
  subst hX
  have hv : VRs σ H (List.map (fun b : UInt8 => [AVal.int .u8 b.toNat]) s).flatten (byteCells ⟨s.toArray⟩) := by
   unfold byteCells
   simp only
   clear slc nil
   induction s with
   | nil => simp
   | cons b s ih => simp only [List.map_cons, List.flatten_cons, List.singleton_append, VRs_cons]; exact ⟨by simp [VR], by simpa using ih⟩
  refine ⟨byteCells ⟨s.toArray⟩, ⟨hk, fun _ => by simp [Builtin.lenOf, bytes_size], ?_, ?_, by rw [byteCells_length]; simp [bytes_size], ?_⟩, hv, ?_⟩
  ·have := firstCells_string (P := P) ⟨s.toArray⟩ w
   simpa [bytes_size] using this
  ·have := firstCells_string (P := P) ⟨s.toArray⟩ w.drew
   simpa [bytes_size] using this
  ·intro u hu
   obtain ⟨_, _, rfl⟩ := List.mem_map.1 hu
   rfl
  ·intro y hy
   obtain ⟨b, _, rfl⟩ := List.mem_map.1 hy
   exact ⟨rfl, rfl⟩
 ·cases ht
theorem run_append_none (t tx ty e : TypeId) (i : TypeInfo) (ht : P.underlying t = some (.slice e)) (hi : P.info? e = some i) (base : Option Addr) (sLen sCap : Nat) (hle : sLen ≤ sCap) (x : Value) (hs : Src P i.size tx x 0 [] w) :
 (Builtin.append_ #[t, tx] ty #[.slice base sLen sCap, x]).run P w = .ok (.slice base sLen sCap) w := by
 rcases hs.kind with ⟨e', hk⟩ | hk <;> cases base <;>
  simp [Builtin.append_, run_underlying ht, run_underlying hk, sizeOf, typeInfo, hi, hs.len, hle, hs.cells, storeCells]
theorem s_app {size bytes : Nat} {s x : AArg} {s' x' : Operand} {t u e : TypeId} {c : Call} {i : TypeInfo} {z : Value} (hop : o.op = .call c) (hc : c.callee = .builtin .append) (ha : c.args.toList = [s', x']) (hat : c.argTypes.toList = [t, u])
 (h1 : argOk s s' = true) (h2 : argOk x x' = true) (hu : P.underlying t = some (.slice e)) (hi : P.info? e = some i) (hz : i.zero = some z) (hsz : i.size = size) (hby : i.bytes = bytes) (hzc : z.cells.size = size) (hs0 : size ≠ 0) (hb0 : bytes ≠ 0)
 (hk : (∃ e', P.underlying u = some (.slice e')) ∨ P.underlying u = some .string)
 (hs : aStep T H (.app size bytes s x) = some (v, H')) (hR : RelH B σ H w) (hT : VRs σ H T a.tmps.toList) : Yields P B σ H w (execOp a.eval o) v H' := by
 have e1 := VR_arg hT h1
 have e2 := VR_arg hT h2
 obtain ⟨callee, args, argTypes⟩ := c
 simp only at hc ha hat
 subst hc
 obtain rfl : args = #[s', x'] := by cases args; simp_all
 obtain rfl : argTypes = #[t, u] := by cases argTypes; simp_all
 have fin : ∀ {X : Value} {w' : World}, (Builtin.append_ #[t, u] o.type #[a.eval s', a.eval x']).run P w = .ok X w' → (execOp a.eval o).run P w = .ok (.value X) w' := by
  intro X w' h
  simp [execOp, hop, resolve, invoke, builtin, h]
 simp only [aStep] at hs
 split at hs
 case h_1 => cases hs
 rename_i ys hys
 obtain ⟨news, hsrc, hvn, hyc⟩ := src_of hk hR e2 hys hs0
 subst hsz
 have hyl := flat_length i.size ys (fun y hy => (hyc y hy).1)
 have hnl : news.length = ys.length * i.size := by rw [← hvn.length, hyl]
 -- a new row
 have grows : ∀ (base : Option Addr) (sLen sCap : Nat) (olds : List Value) (xs : List (List AVal)), a.eval s' = .slice base sLen sCap → (Builtin.firstCells i.size sLen (.slice base sLen sCap)).run P w.drew = .ok olds.toArray w.drew →
  sCap < sLen + ys.length → (sLen + ys.length) * bytes ≤ 140737488355328 → xs.length = sLen → VRs σ H xs.flatten olds → (∀ y ∈ xs, y.length = i.size ∧ y.all AVal.cell = true) →
  ∃ (cap : Nat) (cc : Array Value), sLen + ys.length ≤ cap ∧ cc.size = cap * i.size ∧ VRs σ H (xs ++ ys).flatten (cc.toList.take ((xs ++ ys).length * i.size)) ∧
   (execOp a.eval o).run P w = .ok (.value (.slice (some ⟨w.heap.size, 0, none⟩) (sLen + ys.length) cap)) (w.drew.alloc (.cells cc e)) := by
  intro base sLen sCap olds xs hb hold hg hfit hxl hvo hxc
  have hol : olds.length = sLen * i.size := by rw [← hvo.length, flat_length i.size xs (fun y hy => (hxc y hy).1), hxl]
  have hpos : sLen + ys.length ≤ (sLen + ys.length) * bytes := Nat.le_mul_of_pos_right _ (by omega)
  have hrun := run_append_grow_src (P := P) w t u o.type e i z hu hi hz base sLen sCap olds hold (a.eval x') ys.length news hsrc hg (by omega) (by rw [hby]; exact growslice_fits hg hfit)
  have hge := grownCap_ge w (sLen + ys.length) sCap e
  have hal : ((olds ++ news).toArray ++ Builtin.zeroCells z.cells (grownCap w (sLen + ys.length) sCap e - (sLen + ys.length))).size = grownCap w (sLen + ys.length) sCap e * i.size := by
   rw [Array.size_append, size_zeroCells, hzc]
   simp only [List.size_toArray, List.length_append, hol, hnl]
   rw [← Nat.add_mul, ← Nat.add_mul, Nat.add_sub_cancel' hge]
  refine ⟨grownCap w (sLen + ys.length) sCap e, _, hge, hal, ?_, fin (by rw [hb]; exact hrun)⟩
  have hlen : (xs ++ ys).length * i.size = (olds ++ news).length := by simp [hol, hnl, hxl, Nat.add_mul]
  rw [hlen, Array.toList_append, List.take_left', List.flatten_append]
  ·exact hvo.append hvn
  ·simp
 have hroomD : ∀ {σ' : Sig} {H1 : Heap} {cc : Array Value}, RelH B σ' H1 (w.drew.alloc (.cells cc e)) → Kept B w (w.drew.alloc (.cells cc e)) := fun _ => ((Kept.refl B w).drew).alloc hR.base _
 have hnone : ys = [] → ∀ (base : Option Addr) (sLen sCap : Nat), a.eval s' = .slice base sLen sCap → sLen ≤ sCap → (execOp a.eval o).run P w = .ok (.value (.slice base sLen sCap)) w := by
  rintro rfl base sLen sCap hb hle
  have : news = [] := List.eq_nil_of_length_eq_zero (by simpa using hnl)
  subst this
  exact fin (by rw [hb]; exact run_append_none t u o.type e i hu hi base sLen sCap hle _ hsrc)
 split at hs
 ·-- nil
  rename_i hsv
  rw [hsv] at e1; simp only [VR] at e1
  split at hs
  ·rename_i hy0
   simp only [Option.some.injEq, Prod.mk.injEq] at hs
   obtain ⟨rfl, rfl⟩ := hs
   exact Yields.pure hR (by simp only [VR]) (hnone hy0 none 0 0 e1 (Nat.le_refl _))
  ·rename_i hy0
   have hpos : 0 < ys.length := List.length_pos_iff.2 hy0
   split at hs
   case isFalse => cases hs
   rename_i hfit
   simp only [Option.some.injEq, Prod.mk.injEq] at hs
   obtain ⟨rfl, rfl⟩ := hs
   obtain ⟨cap, cc, g1, g2, g3, g4⟩ := grows none 0 0 [] [] e1 (run_firstCells_none w.drew i.size 0 0 0) (by omega) (by rw [Nat.zero_add]; exact hfit) rfl (by simp) (fun _ h => by cases h)
   rw [Nat.zero_add] at g1 g4
   have hpush := hR.drew.pushArr i.size cap ys cc e hyc g1 g2 (by simpa using g3)
   exact ⟨_, _, _, .inl g4, hpush, VR_slice_new i.size ys cap _ ys.length false rfl g1 (fun h => by cases h), Ext.push _ _ _ _ rfl, hroomD hpush⟩
 ·-- an accumulator
  rename_i ob n hsv
  rw [hsv] at e1; simp only [VR] at e1
  split at hs
  case h_2 => cases hs
  rename_i s1 xs ho
  split at hs
  case isFalse => cases hs
  rename_i hb
  obtain ⟨hl, rfl, hfit⟩ := hb
  simp only [Option.some.injEq, Prod.mk.injEq] at hs
  obtain ⟨rfl, rfl⟩ := hs
  obtain ⟨s2, xs2, ro2, ho2, hn, h0, hne⟩ := e1
  rw [ho] at ho2; injection ho2 with ho2; injection ho2 with g1 g2 g3; subst g1; subst g2; subst g3
  have holt : ob < H.length := (List.getElem?_eq_some_iff.1 ho).1
  obtain ⟨hx1, hx2, hx3⟩ := hR.obj ho
  by_cases hy0 : ys = []
  ·subst hy0
   have hset : H.set ob (.arr i.size (xs ++ []) false) = H := by
    obtain ⟨hl, hh⟩ := List.getElem?_eq_some_iff.1 ho; rw [List.append_nil, ← hh]; simp
   rw [hset]
   have hVR : VR σ H (.acc ob (n + ([] : List (List AVal)).length)) (a.eval s') := by
    simp only [VR, List.length_nil, Nat.add_zero]
    exact ⟨i.size, xs, false, ho, hn, h0, hne⟩
   by_cases hz0 : n = 0
   ·exact Yields.pure hR (by rw [← h0 hz0]; exact hVR) (hnone rfl none 0 0 (h0 hz0) (Nat.le_refl _))
   ·obtain ⟨ad, cap, hv, hc, had⟩ := hne hz0
    exact Yields.pure hR (by rw [← hv]; exact hVR) (hnone rfl _ _ _ hv hc)
  ·have hpos : 0 < ys.length := List.length_pos_iff.2 hy0
   have hlt : xs.length < (xs ++ ys).length := by simp; omega
   have hall : ∀ y ∈ xs ++ ys, y.length = i.size ∧ y.all AVal.cell = true := fun y hy => (List.mem_append.1 hy).elim (hx1 y) (hyc y)
   have acc : ∀ (cap : Nat) (σ' : Sig) (blk : Nat), n + ys.length ≤ cap → σ' ob = ⟨blk, 0, cap⟩ → VR σ' (H.set ob (.arr i.size (xs ++ ys) false)) (.acc ob (n + ys.length)) (.slice (some ⟨blk, 0, none⟩) (n + ys.length) cap) := by
    intro cap σ' blk hcap hσ
    simp only [VR]
    exact ⟨i.size, xs ++ ys, false, List.getElem?_set_self holt, by simp; omega, fun h => by omega, fun _ => ⟨_, cap, rfl, hcap, fun _ => by rw [hσ]; exact ⟨Nat.le_refl _, rfl⟩⟩⟩
   by_cases hz0 : n = 0
   ·have hxs : xs = [] := List.eq_nil_of_length_eq_zero (by omega)
    subst hxs; subst hz0
    obtain ⟨cap, cc, g1, g2, g3, g4⟩ := grows none 0 0 [] [] (h0 rfl) (run_firstCells_none w.drew i.size 0 0 0) (by omega) hfit rfl (by simp) (fun _ h => by cases h)
    have hre := hR.drew.regrow ho hlt cap cc e hall (by simpa using g1) g2 g3
    exact ⟨_, _, _, .inl g4, hre, acc cap _ _ g1 (by simp [Sig.upd]), Ext.grow ho _ (fun q hq => by simp [Sig.upd, hq]) (.inl hlt), hroomD hre⟩
   ·obtain ⟨ad, cap, hv, hc, had⟩ := hne hz0
    obtain ⟨hcr, rfl⟩ := had hl
    have hr0 : (σ ob).room ≠ 0 := by omega
    obtain ⟨cb, eb, fb, hblk, hcells, hown, -⟩ := hx3.resolve_left hr0
    obtain ⟨hB, hoff, hfr, hszb⟩ := hown rfl
    obtain ⟨olds, o1, o2, o3⟩ := hR.readAll ho 0 n (by omega)
    rw [List.drop_zero, List.take_of_length_le (by omega)] at o3
    rw [hoff] at hv
    by_cases hroom : n + ys.length ≤ cap
    ·have hrun := run_append_room_src (P := P) w t u o.type e i hu hi (σ ob).blk 0 n cap (a.eval x') ys.length news hsrc hroom ?_ ?_
     ·rw [Nat.zero_add] at hrun
      refine ⟨σ, _, _, .inl (fin (by rw [hv]; exact hrun)), ?_, ?_, Ext.grow ho _ (fun q hq => rfl) (.inl hlt), below_setCells hB _ _ _ (Kept.refl _ _)⟩
      ·have := hR.inplace ho hyc (by omega) hr0 hvn
       rw [hl] at this; exact this
      ·simp only [VR]
       exact ⟨i.size, xs ++ ys, false, List.getElem?_set_self holt, by simp; omega, fun h => by omega, fun _ => ⟨_, cap, rfl, hroom, fun _ => ⟨by omega, by rw [hoff]⟩⟩⟩
     ·intro j hj
      have : n * i.size + j < cb.size := by
       rw [hszb]
       calc n * i.size + j < n * i.size + ys.length * i.size := by omega
        _ = (n + ys.length) * i.size := by rw [Nat.add_mul]
        _ ≤ (σ ob).room * i.size := Nat.mul_le_mul_right _ (by omega)
      rw [cell_of_row w _ _ cb eb fb hblk]; simp [this]
     ·intro j hj
      simp [World.frozen?, hblk, hfr]
    ·obtain ⟨cap', cc, g1, g2, g3, g4⟩ := grows _ n cap olds xs hv (run_firstCells_some w.drew i.size n _ n cap olds o1 (fun j u hu => by
      have := o2 j u hu
      rw [Addr_add']; simpa [hoff] using this)) (by omega) hfit hl o3 hx1
     have hre := hR.drew.regrow ho hlt cap' cc e hall (by simp; omega) g2 g3
     exact ⟨_, _, _, .inl g4, hre, acc cap' _ _ g1 (by simp [Sig.upd]), Ext.grow ho _ (fun q hq => by simp [Sig.upd, hq]) (.inl hlt), hroomD hre⟩
 ·-- a slice
  rename_i ob n st len full hsv
  rw [hsv] at e1; simp only [VR] at e1
  split at hs
  case h_2 => cases hs
  rename_i s1 xs ro ho
  split at hs
  case isFalse => cases hs
  rename_i hb
  obtain ⟨hl, rfl, hfit⟩ := hb
  obtain ⟨s2, xs2, ro2, ad, cap, ho2, hn, hst, hv, hc, hf, hnn, had⟩ := e1
  rw [ho] at ho2; injection ho2 with ho2; injection ho2 with g1 g2 g3; subst g1; subst g2; subst g3
  have holt : ob < H.length := (List.getElem?_eq_some_iff.1 ho).1
  obtain ⟨hx1, hx2, hx3⟩ := hR.obj ho
  split at hs
  ·rename_i hy0
   simp only [Option.some.injEq, Prod.mk.injEq] at hs
   obtain ⟨rfl, rfl⟩ := hs
   refine Yields.pure hR ?_ (hnone hy0 _ _ _ hv hc)
   simp only [VR]
   exact ⟨_, _, _, ad, cap, ho, hn, hst, rfl, hc, hf, hnn, had⟩
  ·rename_i hy0
   have hpos : 0 < ys.length := List.length_pos_iff.2 hy0
   obtain ⟨olds, o1, o2, o3⟩ := hR.readAll ho st len (by omega)
   have hfirst : (Builtin.firstCells i.size len (.slice ad len cap)).run P w.drew = .ok olds.toArray w.drew := by
    cases ad with
    | none =>
     have hc0 := hnn rfl
     have hl0 : len = 0 := by omega
     have : olds = [] := List.eq_nil_of_length_eq_zero (by rw [o1, hl0]; simp)
     subst this
     rw [hc0, hl0]
     exact run_firstCells_none w.drew i.size 0 0 0
    | some ad =>
     refine run_firstCells_some w.drew i.size len ad len cap olds o1 (fun j u hu => ?_)
     by_cases h0 : cap = 0
     ·have : olds.length = 0 := by rw [o1]; have : len = 0 := by omega
                                   simp [this]
      have := (List.getElem?_eq_some_iff.1 hu).1
      omega
     ·have had' := (had hl).2 h0
      injection had' with had'; subst had'
      rw [Addr_add']
      have := o2 j u hu
      simpa using this
   have hxc : ∀ y ∈ (xs.drop st).take len, y.length = i.size ∧ y.all AVal.cell = true := fun y hy => hx1 y (List.mem_of_mem_drop (List.mem_of_mem_take hy))
   have hxl : ((xs.drop st).take len).length = len := by simp; omega
   split at hs
   ·rename_i hfull
    simp only [Option.some.injEq, Prod.mk.injEq] at hs
    obtain ⟨rfl, rfl⟩ := hs
    have hcap := hf hfull
    obtain ⟨cap', cc, g1, g2, g3, g4⟩ := grows ad len cap olds _ hv hfirst (by omega) hfit hxl o3 hxc
    have hpush := hR.drew.pushArr i.size cap' ((xs.drop st).take len ++ ys) cc e (fun y hy => (List.mem_append.1 hy).elim (hxc y) (hyc y)) (by rw [List.length_append, hxl]; exact g1) g2 g3
    exact ⟨_, _, _, .inl g4, hpush, VR_slice_new i.size _ cap' _ (len + ys.length) false (by rw [List.length_append, hxl]) g1 (fun h => by cases h), Ext.push _ _ _ _ rfl, hroomD hpush⟩
   ·split at hs
    case isFalse => cases hs
    rename_i hcond
    obtain ⟨rfl, rfl, rfl⟩ := hcond
    simp only [Option.some.injEq, Prod.mk.injEq] at hs
    obtain ⟨rfl, rfl⟩ := hs
    have hlt : xs.length < (xs ++ ys).length := by simp; omega
    have hall : ∀ y ∈ xs ++ ys, y.length = i.size ∧ y.all AVal.cell = true := fun y hy => (List.mem_append.1 hy).elim (hx1 y) (hyc y)
    rw [List.drop_zero, List.take_of_length_le (by omega)] at o3
    by_cases hroom : len + ys.length ≤ cap
    ·obtain ⟨hcr, had'⟩ := had hl
     have had' := had' (by omega)
     subst had'
     have hr0 : (σ ob).room ≠ 0 := by omega
     obtain ⟨cb, eb, fb, hblk, hcells, hown, -⟩ := hx3.resolve_left hr0
     obtain ⟨hB, hoff, hfr, hszb⟩ := hown rfl
     rw [hoff, Nat.zero_mul, Nat.zero_add] at hv
     have hrun := run_append_room_src (P := P) w t u o.type e i hu hi (σ ob).blk 0 len cap (a.eval x') ys.length news hsrc hroom ?_ ?_
     ·rw [Nat.zero_add] at hrun
      refine ⟨σ, _, _, .inl (fin (by rw [hv]; exact hrun)), ?_, ?_, Ext.grow ho _ (fun q hq => rfl) (.inl hlt), below_setCells hB _ _ _ (Kept.refl _ _)⟩
      ·have := hR.inplace ho hyc (by omega) hr0 hvn
       rw [hl] at this; exact this
      ·simp only [VR]
       exact ⟨i.size, xs ++ ys, false, _, cap, List.getElem?_set_self holt, by simp; omega, by omega, rfl, hroom, (fun h => by cases h), (fun h => by cases h), fun _ => ⟨by omega, fun _ => by rw [hoff, Nat.zero_mul]⟩⟩
     ·intro j hj
      have : len * i.size + j < cb.size := by
       rw [hszb]
       calc len * i.size + j < len * i.size + ys.length * i.size := by omega
        _ = (len + ys.length) * i.size := by rw [Nat.add_mul]
        _ ≤ (σ ob).room * i.size := Nat.mul_le_mul_right _ (by omega)
      rw [cell_of_row w _ _ cb eb fb hblk]; simp [this]
     ·intro j hj
      simp [World.frozen?, hblk, hfr]
    ·obtain ⟨cap', cc, g1, g2, g3, g4⟩ := grows ad len cap olds xs hv hfirst (by omega) hfit hl o3 hx1
     have hre := hR.drew.regrow ho hlt cap' cc e hall (by simp; omega) g2 g3
     refine ⟨_, _, _, .inl g4, hre, ?_, Ext.grow ho _ (fun q hq => by simp [Sig.upd, hq]) (.inl hlt), hroomD hre⟩
     simp only [VR]
     exact ⟨i.size, xs ++ ys, false, _, cap', List.getElem?_set_self holt, by simp; omega, by omega, rfl, g1, (fun h => by cases h), (fun h => by cases h), fun _ => by simp [Sig.upd]⟩
 ·cases hs
end steps
end Go.Ax
