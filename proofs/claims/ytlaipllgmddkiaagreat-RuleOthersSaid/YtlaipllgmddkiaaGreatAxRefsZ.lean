/- Which objects a value names; an operation names no others. Conditions: none. -/
import Derived.Test.YtlaipllgmddkiaaGreatZAc
set_option linter.all false
namespace Go.Ax
open Go Go.RowKit
mutual
def AVal.refs (p : Nat → Prop) : AVal → Prop
 | .ptr o _ _ _ => p o
 | .slice o _ _ _ _ => p o
 | .acc o _ => p o
 | .isl o _ _ _ _ => p o
 | .map o => p o
 | .itr o => p o
 | .func _ l => refsL p l
 | .iface _ v => AVal.refs p v
 | .agg l => refsL p l
 | .tup l => refsL p l
 | _ => True
def refsL (p : Nat → Prop) : List AVal → Prop
 | [] => True
 | a :: l => AVal.refs p a ∧ refsL p l
end
theorem refsL_iff {p : Nat → Prop} : ∀ {l : List AVal}, refsL p l ↔ ∀ a ∈ l, a.refs p
 | [] => by simp [refsL]
 | a :: l => by simp [refsL, refsL_iff (l := l)]
mutual
theorem refs_mono {p q : Nat → Prop} (h : ∀ o, p o → q o) : ∀ {v : AVal}, v.refs p → v.refs q
 | .ptr .., hv => h _ hv
 | .slice .., hv => h _ hv
 | .acc .., hv => h _ hv
 | .isl .., hv => h _ hv
 | .map .., hv => h _ hv
 | .itr .., hv => h _ hv
 | .func _ l, hv => by simp only [AVal.refs] at *; exact refsL_mono h hv
 | .iface _ v, hv => by simp only [AVal.refs] at *; exact refs_mono h hv
 | .agg l, hv => by simp only [AVal.refs] at *; exact refsL_mono h hv
 | .tup l, hv => by simp only [AVal.refs] at *; exact refsL_mono h hv
 | .top, _ => by simp [AVal.refs]
 | .int .., _ => by simp [AVal.refs]
 | .bool _, _ => by simp [AVal.refs]
 | .str _, _ => by simp [AVal.refs]
 | .lit _, _ => by simp [AVal.refs]
theorem refsL_mono {p q : Nat → Prop} (h : ∀ o, p o → q o) : ∀ {l : List AVal}, refsL p l → refsL q l
 | [], _ => by simp [refsL]
 | a :: l, hl => by simp only [refsL] at *; exact ⟨refs_mono h hl.1, refsL_mono h hl.2⟩
end
def AObj.refs (p : Nat → Prop) : AObj → Prop
 | .arr _ xs _ => ∀ x ∈ xs, refsL p x
 | .map es => refsL p (es.map (·.1)) ∧ refsL p (es.map (·.2))
 | _ => True
def HRefs (p : Nat → Prop) (H : Heap) : Prop := ∀ (o : Nat) (x : AObj), H[o]? = some x → x.refs p
mutual
theorem refs_of_plain {p : Nat → Prop} : ∀ {v : AVal}, v.plain = true → v.refs p
 | .int .., _ => by simp [AVal.refs]
 | .bool _, _ => by simp [AVal.refs]
 | .str _, _ => by simp [AVal.refs]
 | .lit _, _ => by simp [AVal.refs]
 | .top, _ => by simp [AVal.refs]
 | .agg l, h => by simp only [AVal.plain] at h; simp only [AVal.refs]; exact refsL_of_plain h
 | .tup l, h => by simp only [AVal.plain] at h; simp only [AVal.refs]; exact refsL_of_plain h
 | .ptr .., h => by simp [AVal.plain] at h
 | .slice .., h => by simp [AVal.plain] at h
 | .acc .., h => by simp [AVal.plain] at h
 | .isl .., h => by simp [AVal.plain] at h
 | .map .., h => by simp [AVal.plain] at h
 | .itr .., h => by simp [AVal.plain] at h
 | .func .., h => by simp [AVal.plain] at h
 | .iface .., h => by simp [AVal.plain] at h
theorem refsL_of_plain {p : Nat → Prop} : ∀ {l : List AVal}, plains l = true → refsL p l
 | [], _ => by simp [refsL]
 | a :: l, h => by simp only [plains, Bool.and_eq_true] at h; simp only [refsL]; exact ⟨refs_of_plain h.1, refsL_of_plain h.2⟩
end
section
variable {p : Nat → Prop} {T : List AVal} {H H' : Heap} {v : AVal}
theorem aget_refs (hT : ∀ t, (T.getD t .top).refs p) {x : AArg} (h : x.cst = true) : (aget T x).refs p := by
 unfold AArg.cst at h
 split at h
 ·exact hT _
 ·simp [aget, AVal.refs, refsL]
 ·exact refs_of_plain h
theorem agets_refs (hT : ∀ t, (T.getD t .top).refs p) {l : List AArg} (h : l.all AArg.cst = true) : refsL p (l.map (aget T)) := by
 rw [refsL_iff]
 intro a ha
 obtain ⟨x, hx, rfl⟩ := List.mem_map.1 ha
 exact aget_refs hT (List.all_eq_true.1 h x hx)
theorem refsL_take {l : List AVal} (h : refsL p l) (n : Nat) : refsL p (l.take n) := by rw [refsL_iff] at *; exact fun a ha => h a (List.mem_of_mem_take ha)
theorem refsL_drop {l : List AVal} (h : refsL p l) (n : Nat) : refsL p (l.drop n) := by rw [refsL_iff] at *; exact fun a ha => h a (List.mem_of_mem_drop ha)
theorem refsL_get {l : List AVal} (h : refsL p l) {n : Nat} {a : AVal} (ha : l[n]? = some a) : a.refs p := refsL_iff.1 h a (List.mem_of_getElem? ha)
theorem refsL_set {l : List AVal} (h : refsL p l) (n : Nat) {a : AVal} (ha : a.refs p) : refsL p (l.set n a) := by
 rw [refsL_iff] at *
 intro b hb
 rcases List.mem_or_eq_of_mem_set hb with hb | rfl
 ·exact h b hb
 ·exact ha
theorem refsL_append {l r : List AVal} (h : refsL p l) (h' : refsL p r) : refsL p (l ++ r) := by
 rw [refsL_iff] at *
 intro b hb
 rcases List.mem_append.1 hb with hb | hb
 ·exact h b hb
 ·exact h' b hb
theorem refsL_putAt : ∀ {ys l : List AVal} {n : Nat}, refsL p l → refsL p ys → refsL p (putAt l n ys)
 | [], _, _, h, _ => h
 | y :: ys, l, n, h, h' => by
  simp only [refsL] at h'
  rw [putAt_cons]
  exact refsL_putAt (refsL_set h n h'.1) h'.2
theorem refsL_flatten {xs : List (List AVal)} (h : ∀ x ∈ xs, refsL p x) : refsL p xs.flatten := by
 rw [refsL_iff]
 intro a ha
 obtain ⟨x, hx, hax⟩ := List.mem_flatten.1 ha
 exact refsL_iff.1 (h x hx) a hax
theorem asCells_refs {x : AVal} {l : List AVal} (h : asCells x = some l) (hx : x.refs p) : refsL p l := by
 unfold asCells at h
 split at h
 ·injection h with h; subst h; simpa only [AVal.refs] using hx
 ·cases h
 ·cases h
 ·split at h
  ·injection h with h; subst h; simp only [refsL]; exact ⟨hx, trivial⟩
  ·cases h
theorem takeCells_refs (hH : HRefs p H) {size : Nat} {a : AVal} {ys : List (List AVal)} (h : takeCells H size a = some ys) : ∀ y ∈ ys, refsL p y := by
 unfold takeCells at h
 split at h
 ·split at h
  case h_2 => cases h
  rename_i ho
  split at h
  case isFalse => cases h
  injection h with h; subst h
  exact fun y hy => hH _ _ ho y (List.mem_of_mem_drop (List.mem_of_mem_take hy))
 ·split at h
  case h_2 => cases h
  rename_i ho
  split at h
  case isFalse => cases h
  injection h with h; subst h
  exact fun y hy => hH _ _ ho y hy
 ·split at h
  case h_2 => cases h
  rename_i ho
  split at h
  case isFalse =>
   split at h
   ·injection h with h; subst h; exact fun y hy => by cases hy
   ·cases h
  split at h
  case h_2 => cases h
  rename_i hx
  injection h with h; subst h
  intro y hy
  obtain ⟨a, ha, rfl⟩ := List.mem_map.1 hy
  simp only [refsL]
  exact ⟨refsL_iff.1 (hH _ _ ho _ (List.mem_of_getElem? hx)) a (List.mem_of_mem_drop (List.mem_of_mem_take ha)), trivial⟩
 ·injection h with h; subst h; exact fun y hy => by cases hy
 ·split at h
  case isFalse => cases h
  injection h with h; subst h
  intro y hy
  obtain ⟨a, ha, rfl⟩ := List.mem_map.1 hy
  simp [refsL, AVal.refs]
 ·cases h
theorem srcCells_refs (hH : HRefs p H) {size : Nat} {a : AVal} {ys : List (List AVal)} (h : srcCells H size a = some ys) : ∀ y ∈ ys, refsL p y := by
 unfold srcCells at h
 split at h
 ·cases h
 ·exact takeCells_refs hH h
theorem HRefs.set (hH : HRefs p H) {o : Nat} {x : AObj} (hx : x.refs p) : HRefs p (H.set o x) := by
 intro q y hq
 by_cases e : o = q
 ·subst e
  by_cases hl : o < H.length
  ·rw [List.getElem?_set_self hl] at hq; injection hq with hq; subst hq; exact hx
  ·rw [List.getElem?_eq_none (by simp; omega)] at hq; cases hq
 ·rw [List.getElem?_set_ne e] at hq; exact hH q y hq
theorem HRefs.push (hH : HRefs p H) {x : AObj} (hx : x.refs p) : HRefs p (H ++ [x]) := by
 intro q y hq
 rw [List.getElem?_append] at hq
 split at hq
 ·exact hH q y hq
 ·have : y ∈ [x] := List.mem_of_getElem? hq
  simp at this; subst this; exact hx
theorem putParts_refs (hT : ∀ t, (T.getD t .top).refs p) : ∀ {ps : List (Nat × Nat × AArg)} {cells l : List AVal}, (ps.all fun q => q.2.2.cst) = true → refsL p cells → putParts T cells ps = some l → refsL p l
 | [], _, _, _, hc, h => by simp only [putParts, Option.some.injEq] at h; subst h; exact hc
 | (off, size, x) :: r, cells, l, hp, hc, h => by
  simp only [putParts] at h
  simp only [List.all_cons, Bool.and_eq_true] at hp
  split at h
  case h_2 => cases h
  rename_i l' hl
  split at h
  case isFalse => cases h
  exact putParts_refs hT hp.2 (refsL_putAt hc (asCells_refs hl (aget_refs hT hp.1))) h
theorem putElems_refs (hT : ∀ t, (T.getD t .top).refs p) (size : Nat) : ∀ {ps : List (Nat × AArg)} {xs l : List (List AVal)}, (ps.all fun q => q.2.cst) = true → (∀ x ∈ xs, refsL p x) → putElems T size xs ps = some l → ∀ x ∈ l, refsL p x
 | [], _, _, _, hc, h => by simp only [putElems, Option.some.injEq] at h; subst h; exact hc
 | (i, x) :: r, xs, l, hp, hc, h => by
  simp only [putElems] at h
  simp only [List.all_cons, Bool.and_eq_true] at hp
  split at h
  case h_2 => cases h
  rename_i l' hl
  split at h
  case isFalse => cases h
  refine putElems_refs hT size hp.2 (fun y hy => ?_) h
  rcases List.mem_or_eq_of_mem_set hy with hy | rfl
  ·exact hc y hy
  ·exact asCells_refs hl (aget_refs hT hp.1)
theorem aBin_refs {op : BinOp} {k : IntKind} {a b : Int} (h : aBin op k a b = some v) : v.refs p := by
 unfold aBin at h
 split at h <;> first
  | (cases h; done)
  | (simp only [Option.some.injEq] at h; subst h; simp [AVal.refs]; done)
  | (split at h <;> first | (cases h; done) | (simp only [Option.some.injEq] at h; subst h; simp [AVal.refs]))
theorem aShift_refs {op : BinOp} {k : IntKind} {a b : Int} (h : aShift op k a b = some v) : v.refs p := by
 unfold aShift at h
 split at h
 ·cases h
 ·split at h <;> first | (cases h; done) | (simp only [Option.some.injEq] at h; subst h; simp [AVal.refs])
theorem aMx_refs (mx : Bool) : ∀ {l : List AArg} {u : AVal}, aMx mx T u l = some v → v.refs p
 | [], u, h => by
  cases u <;> simp [aMx] at h
  subst h; simp [AVal.refs]
 | x :: l, u, h => by
  cases u <;> simp only [aMx] at h <;> try (cases h; done)
  split at h
  ·exact aMx_refs mx h
  ·cases h
theorem mfind_refs {ik : IntKind} {n : Int} : ∀ {es : List (AVal × AVal)} {u : AVal}, refsL p (es.map (·.2)) → mfind ik n es = some (some u) → u.refs p
 | [], _, _, h => by simp [mfind] at h
 | (k0, u0) :: es, u, hp, h => by
  simp only [List.map_cons, refsL] at hp
  cases k0 with
  | int k' q =>
   simp only [mfind] at h
   split at h
   case isFalse => cases h
   split at h
   ·simp only [Option.some.injEq] at h; subst h; exact hp.1
   ·exact mfind_refs hp.2 h
  | _ => simp [mfind] at h
theorem mput_refs {ik : IntKind} {n : Int} {u : AVal} (hu : u.refs p) : ∀ {es : List (AVal × AVal)}, refsL p (es.map (·.1)) → refsL p (es.map (·.2)) → refsL p ((mput ik n u es).map (·.1)) ∧ refsL p ((mput ik n u es).map (·.2))
 | [], _, _ => by simp [mput, refsL, AVal.refs, hu]
 | (k0, u0) :: es, h1, h2 => by
  simp only [List.map_cons, refsL] at h1 h2
  have ih := mput_refs (ik := ik) (n := n) hu h1.2 h2.2
  cases k0 with
  | int k' q =>
   simp only [mput]
   split
   ·simp only [List.map_cons, refsL]; exact ⟨⟨by simp [AVal.refs], h1.2⟩, hu, h2.2⟩
   ·simp only [List.map_cons, refsL]; exact ⟨⟨h1.1, ih.1⟩, h2.1, ih.2⟩
  | _ => simp only [mput, List.map_cons, refsL]; exact ⟨⟨h1.1, ih.1⟩, h2.1, ih.2⟩
theorem putRows_refs : ∀ {ys xs : List (List AVal)} {i : Nat}, (∀ x ∈ xs, refsL p x) → (∀ y ∈ ys, refsL p y) → ∀ x ∈ putRows xs i ys, refsL p x
 | [], _, _, h, _ => h
 | y :: ys, xs, i, h, h' => by
  rw [putRows]
  refine putRows_refs (fun x hx => ?_) (fun z hz => h' z (List.mem_cons_of_mem _ hz))
  rcases List.mem_or_eq_of_mem_set hx with hx | rfl
  ·exact h x hx
  ·exact h' _ List.mem_cons_self
theorem born_refs (hT : ∀ t, (T.getD t .top).refs p) {k : Nat} (hk : p k) {b : ABirth} (hc : b.cst = true) {x : AObj} (h : bornStep T k b = some (v, x)) : v.refs p ∧ x.refs p := by
 cases b <;> simp only [bornStep] at h <;> simp only [ABirth.cst, Bool.and_eq_true] at hc
 case new =>
  simp only [Option.some.injEq, Prod.mk.injEq] at h; obtain ⟨rfl, rfl⟩ := h
  exact ⟨hk, fun y hy => by simp at hy; subst hy; exact refsL_of_plain hc⟩
 case box =>
  simp only [Option.map_eq_some_iff, Prod.mk.injEq] at h; obtain ⟨l, h1, rfl, rfl⟩ := h
  exact ⟨hk, fun y hy => by simp at hy; subst hy; exact asCells_refs h1 (aget_refs hT hc)⟩
 case bsl =>
  simp only [Option.map_eq_some_iff, Prod.mk.injEq] at h; obtain ⟨l, h1, rfl, rfl⟩ := h
  exact ⟨hk, putElems_refs hT _ hc.2 (fun y hy => by obtain ⟨-, rfl⟩ := List.mem_replicate.1 hy; exact refsL_of_plain hc.1) h1⟩
 case mks =>
  split at h
  case h_2 => cases h
  split at h
  case isFalse => cases h
  simp only [Option.some.injEq, Prod.mk.injEq] at h; obtain ⟨rfl, rfl⟩ := h
  exact ⟨hk, fun y hy => by obtain ⟨-, rfl⟩ := List.mem_replicate.1 hy; exact refsL_of_plain hc.1.1⟩
 case mkm =>
  simp only [Option.some.injEq, Prod.mk.injEq] at h; obtain ⟨rfl, rfl⟩ := h
  exact ⟨hk, by simp [AObj.refs, refsL]⟩
theorem aStep_refs {op : AOp} (hT : ∀ t, (T.getD t .top).refs p) (hH : HRefs p H) (hn : p H.length) (hc : op.cst = true) (h : aStep T H op = some (v, H')) : v.refs p ∧ HRefs p H' := by
 cases op
 case len str x =>
  have e := quiet_heap (op := .len str x) rfl h
  subst e
  refine ⟨?_, hH⟩
  cases str <;> simp only [aStep] at h <;> (split at h) <;> first | (cases h; done) | (simp only [Option.some.injEq, Prod.mk.injEq] at h; obtain ⟨rfl, -⟩ := h; simp [AVal.refs])
 all_goals simp only [AOp.cst, Bool.and_eq_true] at hc
 case mv x => simp only [aStep, Option.some.injEq, Prod.mk.injEq] at h; obtain ⟨rfl, rfl⟩ := h; exact ⟨aget_refs hT hc, hH⟩
 case pick c a b =>
  simp only [aStep] at h
  split at h
  case h_2 => cases h
  simp only [Option.some.injEq, Prod.mk.injEq] at h; obtain ⟨rfl, rfl⟩ := h
  refine ⟨?_, hH⟩
  split
  ·exact aget_refs hT hc.1.2
  ·exact aget_refs hT hc.2
 case bin op x y =>
  simp only [aStep] at h
  split at h
  case h_2 => cases h
  split at h
  ·simp only [Option.map_eq_some_iff, Prod.mk.injEq] at h; obtain ⟨u, h1, rfl, rfl⟩ := h; exact ⟨aShift_refs h1, hH⟩
  ·simp only [Option.map_eq_some_iff, Prod.mk.injEq] at h; obtain ⟨u, h1, rfl, rfl⟩ := h; exact ⟨aShift_refs h1, hH⟩
  ·split at h
   ·simp only [Option.map_eq_some_iff, Prod.mk.injEq] at h; obtain ⟨u, h1, rfl, rfl⟩ := h; exact ⟨aBin_refs h1, hH⟩
   ·cases h
 case fld off x =>
  simp only [aStep] at h
  split at h
  case h_2 => cases h
  rename_i hx
  have := aget_refs hT hc; rw [hx] at this; simp only [AVal.refs] at this
  simp only [Option.some.injEq, Prod.mk.injEq] at h; obtain ⟨rfl, rfl⟩ := h; exact ⟨this, hH⟩
 case nck x =>
  simp only [aStep] at h
  split at h
  case h_2 => cases h
  rename_i hx
  have := aget_refs hT hc; rw [hx] at this
  simp only [Option.some.injEq, Prod.mk.injEq] at h; obtain ⟨rfl, rfl⟩ := h; exact ⟨this, hH⟩
 case ixa n size x i =>
  simp only [aStep] at h
  split at h
  case h_2 => cases h
  rename_i hx _
  have := aget_refs hT hc.1; rw [hx] at this; simp only [AVal.refs] at this
  split at h
  case isFalse => cases h
  simp only [Option.some.injEq, Prod.mk.injEq] at h; obtain ⟨rfl, rfl⟩ := h; exact ⟨this, hH⟩
 case ixs size x i =>
  have hx0 := aget_refs hT hc.1
  simp only [aStep] at h
  split at h
  ·rename_i hx _
   rw [hx] at hx0; simp only [AVal.refs] at hx0
   split at h
   case h_2 => cases h
   split at h
   case isFalse => cases h
   simp only [Option.some.injEq, Prod.mk.injEq] at h; obtain ⟨rfl, rfl⟩ := h; exact ⟨hx0, hH⟩
  ·rename_i hx _
   rw [hx] at hx0; simp only [AVal.refs] at hx0
   split at h
   case h_2 => cases h
   split at h
   case isFalse => cases h
   simp only [Option.some.injEq, Prod.mk.injEq] at h; obtain ⟨rfl, rfl⟩ := h; exact ⟨hx0, hH⟩
  ·rename_i hx _
   rw [hx] at hx0; simp only [AVal.refs] at hx0
   split at h
   case h_2 => cases h
   split at h
   case isFalse => cases h
   simp only [Option.some.injEq, Prod.mk.injEq] at h; obtain ⟨rfl, rfl⟩ := h; exact ⟨hx0, hH⟩
  ·cases h
 case ld n x =>
  simp only [aStep] at h
  split at h
  case h_2 => cases h
  split at h
  case h_2 => cases h
  rename_i ho
  split at h
  case isFalse => cases h
  split at h
  case h_2 => cases h
  rename_i hcell
  have hr := hH _ _ ho _ (List.mem_of_getElem? hcell)
  split at h
  ·split at h
   case h_2 => cases h
   rename_i ha
   simp only [Option.some.injEq, Prod.mk.injEq] at h; obtain ⟨rfl, rfl⟩ := h
   exact ⟨refsL_get hr ha, hH⟩
  ·split at h
   case isFalse => cases h
   simp only [Option.some.injEq, Prod.mk.injEq] at h; obtain ⟨rfl, rfl⟩ := h
   exact ⟨by simp only [AVal.refs]; exact refsL_take (refsL_drop hr _) _, hH⟩
 case st size x y =>
  simp only [aStep] at h
  split at h
  case h_2 => cases h
  rename_i hy
  have hys := asCells_refs hy (aget_refs hT hc.2)
  split at h
  case h_2 => cases h
  rename_i ho
  split at h
  case isFalse => cases h
  split at h
  case h_2 => cases h
  rename_i hcell
  have hr := hH _ _ ho _ (List.mem_of_getElem? hcell)
  split at h
  case isFalse => cases h
  simp only [Option.some.injEq, Prod.mk.injEq] at h; obtain ⟨rfl, rfl⟩ := h
  refine ⟨by simp [AVal.refs], hH.set fun z hz => ?_⟩
  rcases List.mem_or_eq_of_mem_set hz with hz | rfl
  ·exact hH _ _ ho z hz
  ·exact refsL_putAt hr hys
 case ixagg n size agg x i =>
  simp only [aStep] at h
  split at h
  case h_2 => cases h
  rename_i hx _
  have hx0 := aget_refs hT hc.1; rw [hx] at hx0; simp only [AVal.refs] at hx0
  split at h
  case isFalse => cases h
  split at h
  ·split at h
   case isFalse => cases h
   simp only [Option.some.injEq, Prod.mk.injEq] at h; obtain ⟨rfl, rfl⟩ := h
   exact ⟨by simp only [AVal.refs]; exact refsL_take (refsL_drop hx0 _) _, hH⟩
  ·simp only [Option.map_eq_some_iff, Prod.mk.injEq] at h; obtain ⟨u, h1, rfl, rfl⟩ := h
   exact ⟨refsL_get hx0 h1, hH⟩
 case part off n x =>
  simp only [aStep] at h
  split at h
  case h_2 => cases h
  rename_i hx
  have hx0 := aget_refs hT hc; rw [hx] at hx0; simp only [AVal.refs] at hx0
  split at h
  ·simp only [Option.map_eq_some_iff, Prod.mk.injEq] at h; obtain ⟨u, h1, rfl, rfl⟩ := h
   exact ⟨refsL_get hx0 h1, hH⟩
  ·split at h
   case isFalse => cases h
   simp only [Option.some.injEq, Prod.mk.injEq] at h; obtain ⟨rfl, rfl⟩ := h
   exact ⟨by simp only [AVal.refs]; exact refsL_take (refsL_drop hx0 _) _, hH⟩
 case ext x i =>
  simp only [aStep] at h
  split at h
  case h_2 => cases h
  rename_i hx
  have hx0 := aget_refs hT hc; rw [hx] at hx0; simp only [AVal.refs] at hx0
  simp only [Option.map_eq_some_iff, Prod.mk.injEq] at h; obtain ⟨u, h1, rfl, rfl⟩ := h
  exact ⟨refsL_get hx0 h1, hH⟩
 case build z ps =>
  simp only [aStep, Option.map_eq_some_iff, Prod.mk.injEq] at h
  obtain ⟨l, h1, rfl, rfl⟩ := h
  exact ⟨by simp only [AVal.refs]; exact putParts_refs hT hc.2 (refsL_of_plain hc.1) h1, hH⟩
 case bsl size n z ps =>
  simp only [aStep, Option.map_eq_some_iff, Prod.mk.injEq] at h
  obtain ⟨l, h1, rfl, rfl⟩ := h
  exact ⟨hn, hH.push (putElems_refs hT _ hc.2 (fun y hy => by obtain ⟨-, rfl⟩ := List.mem_replicate.1 hy; exact refsL_of_plain hc.1) h1)⟩
 case box x =>
  simp only [aStep, Option.map_eq_some_iff, Prod.mk.injEq] at h
  obtain ⟨l, h1, rfl, rfl⟩ := h
  exact ⟨hn, hH.push fun y hy => by simp at hy; subst hy; exact asCells_refs h1 (aget_refs hT hc)⟩
 case new z =>
  simp only [aStep, Option.some.injEq, Prod.mk.injEq] at h
  obtain ⟨rfl, rfl⟩ := h
  exact ⟨hn, hH.push fun y hy => by simp at hy; subst hy; exact refsL_of_plain hc⟩
 case mks size bytes z l c =>
  simp only [aStep] at h
  split at h
  case h_2 => cases h
  split at h
  case isFalse => cases h
  simp only [Option.some.injEq, Prod.mk.injEq] at h; obtain ⟨rfl, rfl⟩ := h
  exact ⟨hn, hH.push fun y hy => by obtain ⟨-, rfl⟩ := List.mem_replicate.1 hy; exact refsL_of_plain hc.1.1⟩
 case app size bytes s x =>
  have hs0 := aget_refs hT hc.1
  simp only [aStep] at h
  split at h
  case h_1 => cases h
  rename_i ys hy
  have hys := takeCells_refs hH hy
  split at h
  ·split at h
   ·simp only [Option.some.injEq, Prod.mk.injEq] at h; obtain ⟨rfl, rfl⟩ := h; exact ⟨by simp [AVal.refs], hH⟩
   ·split at h
    case isFalse => cases h
    simp only [Option.some.injEq, Prod.mk.injEq] at h; obtain ⟨rfl, rfl⟩ := h; exact ⟨hn, hH.push hys⟩
  ·rename_i hx
   rw [hx] at hs0; simp only [AVal.refs] at hs0
   split at h
   case h_2 => cases h
   rename_i ho
   split at h
   case isFalse => cases h
   simp only [Option.some.injEq, Prod.mk.injEq] at h; obtain ⟨rfl, rfl⟩ := h
   refine ⟨hs0, hH.set fun y hy => ?_⟩
   rcases List.mem_append.1 hy with hy | hy
   ·exact hH _ _ ho y hy
   ·exact hys y hy
  ·rename_i hx
   rw [hx] at hs0; simp only [AVal.refs] at hs0
   split at h
   case h_2 => cases h
   rename_i ho
   split at h
   case isFalse => cases h
   split at h
   ·simp only [Option.some.injEq, Prod.mk.injEq] at h; obtain ⟨rfl, rfl⟩ := h; exact ⟨hs0, hH⟩
   ·split at h
    ·simp only [Option.some.injEq, Prod.mk.injEq] at h; obtain ⟨rfl, rfl⟩ := h
     refine ⟨hn, hH.push fun y hy => ?_⟩
     rcases List.mem_append.1 hy with hy | hy
     ·exact hH _ _ ho y (List.mem_of_mem_drop (List.mem_of_mem_take hy))
     ·exact hys y hy
    ·split at h
     case isFalse => cases h
     simp only [Option.some.injEq, Prod.mk.injEq] at h; obtain ⟨rfl, rfl⟩ := h
     refine ⟨hs0, hH.set fun y hy => ?_⟩
     rcases List.mem_append.1 hy with hy | hy
     ·exact hH _ _ ho y hy
     ·exact hys y hy
  ·cases h
 case rng x =>
  simp only [aStep] at h
  split at h
  case h_2 => cases h
  simp only [Option.some.injEq, Prod.mk.injEq] at h; obtain ⟨rfl, rfl⟩ := h
  exact ⟨hn, hH.push trivial⟩
 case nxt x =>
  simp only [aStep] at h
  split at h
  case h_2 => cases h
  split at h
  case h_2 => cases h
  split at h
  ·simp only [Option.some.injEq, Prod.mk.injEq] at h; obtain ⟨rfl, rfl⟩ := h
   exact ⟨by simp [AVal.refs, refsL], hH.set trivial⟩
  ·simp only [Option.some.injEq, Prod.mk.injEq] at h; obtain ⟨rfl, rfl⟩ := h
   exact ⟨by simp [AVal.refs, refsL], hH⟩
 case sla n x lo hi =>
  have hx0 := aget_refs hT hc.1.1
  simp only [aStep] at h
  split at h
  case h_2 => cases h
  rename_i hx _ _
  rw [hx] at hx0; simp only [AVal.refs] at hx0
  split at h
  case h_2 => cases h
  split at h
  case isFalse => cases h
  simp only [Option.some.injEq, Prod.mk.injEq] at h; obtain ⟨rfl, rfl⟩ := h
  exact ⟨hx0, hH⟩
 case sls size x lo hi mx =>
  have e := quiet_heap (op := .sls size x lo hi mx) rfl h
  subst e
  refine ⟨?_, hH⟩
  have hx0 := aget_refs hT hc.1.1.1
  simp only [aStep] at h
  split at h
  all_goals first | (cases h; done) | skip
  all_goals (rename_i hx; rw [hx] at hx0; simp only [AVal.refs] at hx0)
  all_goals (repeat' split at h)
  all_goals first | (cases h; done) | (simp only [Option.some.injEq, Prod.mk.injEq] at h; obtain ⟨rfl, -⟩ := h; simp only [AVal.refs]; try exact hx0)
 case mxn mx l =>
  simp only [aStep] at h
  split at h
  case h_2 => cases h
  simp only [Option.map_eq_some_iff, Prod.mk.injEq] at h; obtain ⟨u, h1, rfl, rfl⟩ := h
  exact ⟨aMx_refs mx h1, hH⟩
 case mkf f l =>
  simp only [aStep, Option.some.injEq, Prod.mk.injEq] at h; obtain ⟨rfl, rfl⟩ := h
  exact ⟨by simp only [AVal.refs]; exact agets_refs hT hc, hH⟩
 case mkm =>
  simp only [aStep, Option.some.injEq, Prod.mk.injEq] at h; obtain ⟨rfl, rfl⟩ := h
  exact ⟨hn, hH.push (by simp [AObj.refs, refsL])⟩
 case mlk z x k =>
  simp only [aStep] at h
  split at h
  case h_2 => cases h
  split at h
  ·split at h
   case h_2 => cases h
   rename_i ho
   split at h
   ·rename_i hm
    simp only [Option.some.injEq, Prod.mk.injEq] at h; obtain ⟨rfl, rfl⟩ := h
    exact ⟨mfind_refs (hH _ _ ho).2 hm, hH⟩
   ·simp only [Option.some.injEq, Prod.mk.injEq] at h; obtain ⟨rfl, rfl⟩ := h
    exact ⟨refs_of_plain hc.1.1, hH⟩
   ·cases h
  ·simp only [Option.some.injEq, Prod.mk.injEq] at h; obtain ⟨rfl, rfl⟩ := h
   exact ⟨refs_of_plain hc.1.1, hH⟩
  ·cases h
 case mup x k y =>
  simp only [aStep] at h
  split at h
  case h_2 => cases h
  split at h
  case h_2 => cases h
  rename_i ho
  split at h
  case h_2 => cases h
  split at h
  case isFalse => cases h
  simp only [Option.some.injEq, Prod.mk.injEq] at h; obtain ⟨rfl, rfl⟩ := h
  exact ⟨by simp [AVal.refs], hH.set (mput_refs (aget_refs hT hc.2) (hH _ _ ho).1 (hH _ _ ho).2)⟩
 case cpy size d s =>
  simp only [aStep] at h
  split at h
  case h_1 => cases h
  rename_i ys hy
  have hys := srcCells_refs hH hy
  have hyt : ∀ n, ∀ y ∈ ys.take n, refsL p y := fun n y hy => hys y (List.mem_of_mem_take hy)
  split at h
  ·split at h
   case h_2 => cases h
   rename_i ho
   split at h
   case isFalse => cases h
   split at h
   case h_2 => cases h
   rename_i hx
   simp only [Option.some.injEq, Prod.mk.injEq] at h; obtain ⟨rfl, rfl⟩ := h
   refine ⟨by simp [AVal.refs], hH.set fun z hz => ?_⟩
   rcases List.mem_or_eq_of_mem_set hz with hz | rfl
   ·exact hH _ _ ho z hz
   ·exact refsL_putAt (hH _ _ ho _ (List.mem_of_getElem? hx)) (refsL_flatten (hyt _))
  ·split at h
   case h_2 => cases h
   rename_i ho
   split at h
   case isFalse => cases h
   simp only [Option.some.injEq, Prod.mk.injEq] at h; obtain ⟨rfl, rfl⟩ := h
   exact ⟨by simp [AVal.refs], hH.set (putRows_refs (hH _ _ ho) (hyt _))⟩
  ·cases h
 all_goals
  simp only [aStep] at h
  (repeat' split at h) <;> first
   | (cases h; done)
   | (simp only [Option.some.injEq, Prod.mk.injEq] at h; obtain ⟨rfl, rfl⟩ := h; exact ⟨by simp [AVal.refs], hH⟩)
   | (simp only [Option.map_eq_some_iff, Prod.mk.injEq] at h; obtain ⟨_, _, rfl, rfl⟩ := h; exact ⟨by simp [AVal.refs], hH⟩)
end
end Go.Ax
