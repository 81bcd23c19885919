/- Texts put behind one another: PInv, PGood, PMail, PGive, PMove, PBell, PTag, PCarve, PBadge, PTake, PTake3, PBelow, PTakeN, PWords, PTake2, PKeep, PRevoke, PRule. Conditions: none. -/
import Derived.Test.YtlaipllgmddkiaaGreatZMo
import Derived.KernelRfl
import Derived.Test.YtlaipllgmddkiaaGreatMTakeZ
import Derived.Test.YtlaipllgmddkiaaGreatAxSortZ
set_option linter.all false
namespace Go.Ax.M
open Go Go.Ax
def Edge (s : State) (n m : Int) : Prop := 0 ≤ n ∧ ∃ i : Nat, i < s.slots.length ∧ (s.slot i).cap.ty = 2 ∧ tHas (s.thing n.toNat) i = true ∧ sThere s (s.slot i).cap.th = true ∧ (s.slot i).cap.th = m
inductive Reach (s : State) : Int → Int → Prop
 | refl {n : Int} : Reach s n n
 | step {n m k : Int} (h : Edge s n m) (r : Reach s m k) : Reach s n k
theorem Reach.trans {s : State} {n m k : Int} (a : Reach s n m) (b : Reach s m k) : Reach s n k := by
 induction a with
 | refl => exact b
 | step h _ ih => exact .step h (ih b)
theorem Reach.one {s : State} {n m : Int} (h : Edge s n m) : Reach s n m := .step h .refl
theorem Reach.mono {s u : State} {n m : Int} (h : ∀ n m, Edge s n m → Edge u n m) (r : Reach s n m) : Reach u n m := by
 induction r with
 | refl => exact .refl
 | step e _ ih => exact .step (h _ _ e) ih
theorem within_fold_sound {s : State} {f : Int → List Int → List Int} {node : Int} (h0 : 0 ≤ node) (hf : ∀ t l x, 0 ≤ t → x ∈ f t l → x ∈ l ∨ Reach s t x) :
 ∀ (L : List Nat) (l : List Int) {x : Int}, (∀ i ∈ L, i < s.slots.length) → x ∈ L.foldl (withinStep s f node) l → x ∈ l ∨ Reach s node x
 | [], l, x, _, h => .inl h
 | i :: L, l, x, hL, h => by
  rw [List.foldl_cons] at h
  rcases within_fold_sound h0 hf L _ (fun j hj => hL j (List.mem_cons_of_mem _ hj)) h with h | h
  ·simp only [withinStep] at h
   cases hc : (decide ((s.slot i).cap.ty = 2) && (tHas (s.thing node.toNat) i && sThere s (s.slot i).cap.th)) with
   | false => rw [hc] at h; exact .inl h
   | true =>
    rw [hc] at h
    simp only [cond_true] at h
    simp only [Bool.and_eq_true, decide_eq_true_eq] at hc
    have h0' : 0 ≤ (s.slot i).cap.th := by have := hc.2.2; simp [sThere] at this; exact this.1
    rcases hf _ _ _ h0' h with h | h
    ·exact .inl h
    ·exact .inr (.step ⟨h0, i, hL i List.mem_cons_self, hc.1, hc.2.1, hc.2.2, rfl⟩ h)
  ·exact .inr h
theorem within_sound {s : State} : ∀ (n : Nat) (node : Int) (l : List Int) {x : Int}, 0 ≤ node → x ∈ withinF s n node l → x ∈ l ∨ Reach s node x
 | 0, _, _, _, _, h => .inl h
 | n + 1, node, l, x, h0, h => by
  rw [withinF] at h
  cases hc : l.contains node with
  | true => rw [hc] at h; exact .inl h
  | false =>
   rw [hc] at h
   simp only [cond_false] at h
   rcases within_fold_sound h0 (fun t l x h1 => within_sound n t l h1) _ _ (fun i hi => List.mem_range.1 hi) h with h | h
   ·rcases List.mem_append.1 h with h | h
    ·exact .inl h
    ·simp at h; subst h; exact .inr .refl
   ·exact .inr h
structure Done (s : State) (l l' : List Int) : Prop where
 sub : ∀ x ∈ l, x ∈ l'
 shut : ∀ x ∈ l', x ∉ l → ∀ y, Edge s x y → y ∈ l'
theorem Done.refl {s : State} {l : List Int} : Done s l l := ⟨fun _ h => h, fun _ h hn => absurd h hn⟩
theorem Done.trans {s : State} {l m k : List Int} (a : Done s l m) (b : Done s m k) : Done s l k :=
 ⟨fun x h => b.sub x (a.sub x h), fun x h hn y e => by
  by_cases hm : x ∈ m
  ·exact b.sub y (a.shut x hm hn y e)
  ·exact b.shut x h hm y e⟩
theorem lacks_mono {s : State} {l l' : List Int} (h : ∀ x ∈ l, x ∈ l') : lacks s l' ≤ lacks s l := by
 unfold lacks
 refine List.countP_mono_left fun x _ hx => ?_
 simp at hx ⊢
 exact fun h' => hx (h _ h')
theorem within_fold_done {s : State} {f : Int → List Int → List Int} {node : Int} {n : Nat} (hf : ∀ t l, sThere s t = true → lacks s l < n → Done s l (f t l) ∧ t ∈ f t l) :
 ∀ (L : List Nat) (l : List Int), lacks s l < n → Done s l (L.foldl (withinStep s f node) l) ∧
  ∀ i ∈ L, (s.slot i).cap.ty = 2 → tHas (s.thing node.toNat) i = true → sThere s (s.slot i).cap.th = true → (s.slot i).cap.th ∈ L.foldl (withinStep s f node) l
 | [], l, _ => ⟨.refl, fun i hi => by cases hi⟩
 | i :: L, l, hl => by
  rw [List.foldl_cons]
  have h1 : Done s l (withinStep s f node l i) ∧ ((s.slot i).cap.ty = 2 → tHas (s.thing node.toNat) i = true → sThere s (s.slot i).cap.th = true → (s.slot i).cap.th ∈ withinStep s f node l i) := by
   simp only [withinStep]
   cases hc : (decide ((s.slot i).cap.ty = 2) && (tHas (s.thing node.toNat) i && sThere s (s.slot i).cap.th)) with
   | false =>
    refine ⟨.refl, fun a b c => ?_⟩
    simp [a, b, c] at hc
   | true =>
    simp only [Bool.and_eq_true, decide_eq_true_eq] at hc
    have := hf _ l hc.2.2 hl
    exact ⟨this.1, fun _ _ _ => this.2⟩
  have h2 := within_fold_done (node := node) hf L (withinStep s f node l i) (Nat.lt_of_le_of_lt (lacks_mono h1.1.sub) hl)
  refine ⟨h1.1.trans h2.1, fun j hj a b c => ?_⟩
  rcases List.mem_cons.1 hj with rfl | hj
  ·exact h2.1.sub _ (h1.2 a b c)
  ·exact h2.2 j hj a b c
theorem within_done {s : State} : ∀ (n : Nat) (node : Int) (l : List Int), sThere s node = true → lacks s l < n → Done s l (withinF s n node l) ∧ node ∈ withinF s n node l
 | 0, _, _, _, h => absurd h (Nat.not_lt_zero _)
 | n + 1, node, l, ht, hl => by
  rw [withinF]
  cases hc : l.contains node with
  | true => exact ⟨.refl, by simpa using hc⟩
  | false =>
   simp only [cond_false]
   have ht' := ht
   simp [sThere] at ht'
   have h1 : lacks s (l ++ [node]) < lacks s l := lacks_lt (fun x h => List.mem_append_left _ h) ht'.1 ht'.2.1 hc (by simp)
   have h2 := within_fold_done (s := s) (node := node) (fun t l a b => within_done n t l a b) (List.range s.slots.length) (l ++ [node]) (by omega)
   refine ⟨⟨fun x h => h2.1.sub x (List.mem_append_left _ h), fun x h hn y e => ?_⟩, h2.1.sub _ (by simp)⟩
   by_cases hx : x = node
   ·subst hx
    obtain ⟨-, i, hi, a, b, c, rfl⟩ := e
    exact h2.2 i (List.mem_range.2 hi) a b c
   ·exact h2.1.shut x h (by simp [hn, hx]) y e
theorem within_iff {s : State} {node x : Int} (ht : sThere s node = true) : x ∈ withinF s (s.things.length + 1) node [] ↔ Reach s node x := by
 constructor
 ·intro h
  rcases within_sound _ _ _ (by have := ht; simp [sThere] at this; exact this.1) h with h | h
  ·cases h
  ·exact h
 ·intro r
  have h := within_done (s.things.length + 1) node [] ht (Nat.lt_succ_of_le lacks_le)
  have : ∀ {a b : Int}, Reach s a b → a ∈ withinF s (s.things.length + 1) node [] → b ∈ withinF s (s.things.length + 1) node [] := by
   intro a b r
   induction r with
   | refl => exact id
   | step e _ ih => exact fun ha => ih (h.1.shut _ ha (by simp) _ e)
  exact this r h.2
theorem sInside_iff {s : State} {node slot : Int} : sInside s node slot = true ↔ sThere s node = true ∧ (s.thing node.toNat).ty = 2 ∧ Reach s node (sOwner s slot) := by
 simp only [sInside, Bool.and_eq_true, decide_eq_true_eq, List.contains_eq_mem]
 constructor
 ·rintro ⟨a, b, c⟩; exact ⟨a, b, (within_iff a).1 c⟩
 ·rintro ⟨a, b, c⟩; exact ⟨a, b, (within_iff a).2 c⟩
def fitN (s : State) (k : Nat) : Prop := (s.thing k).ty = 2 → (s.thing k).base + p2 (s.thing k).bits ≤ s.slots.length
def apartN (s : State) (k j : Nat) : Prop := ∀ i : Nat, tHas (s.thing k) i = true → tHas (s.thing j) i = true → False
def MarkSpec (b : Int) (had : List Bool) (n : Nat) : Option (List Bool) → Prop
 | some h => h.length = had.length ∧ (n = 0 ∨ b + n ≤ had.length) ∧ (∀ j, j < n → had.getD (b.toNat + j) false = false) ∧ ∀ i, h.getD i false = (had.getD i false || (decide (b.toNat ≤ i) && decide (i < b.toNat + n)))
 | none => ¬ (b + n ≤ had.length) ∨ ∃ j, j < n ∧ had.getD (b.toNat + j) false = true
theorem getD_set {h : List Bool} {k i : Nat} (hk : k < h.length) : (h.set k true).getD i false = (h.getD i false || decide (i = k)) := by
 simp only [List.getD]
 by_cases e : i = k
 ·subst e; simp [hk]
 ·rw [List.getElem?_set_ne (fun h => e h.symm)]; simp [e]
theorem marks_spec {b : Int} (hb : 0 ≤ b) {had : List Bool} : ∀ n : Nat, MarkSpec b had n (marks b had n)
 | 0 => by
  simp [marks, MarkSpec]
  intro i h1 h2; omega
 | n + 1 => by
  have ih := marks_spec hb (had := had) n
  rw [marks_succ]
  cases e : marks b had n with
  | none =>
   rw [e] at ih
   simp only [markStep, MarkSpec] at ih ⊢
   rcases ih with h | ⟨j, h1, h2⟩
   ·left; omega
   ·exact .inr ⟨j, by omega, h2⟩
  | some h =>
   rw [e] at ih
   obtain ⟨h1, h2, h3, h4⟩ := ih
   have hn : (b + (n : Int)).toNat = b.toNat + n := by omega
   simp only [markStep, hn]
   by_cases hc : b + (n : Int) < h.length
   ·cases hg : h.getD (b.toNat + n) false with
    | false =>
     simp only [hc, decide_true, Bool.not_false, Bool.and_self, cond_true, MarkSpec]
     have h5 : had.getD (b.toNat + n) false = false := by
      have := h4 (b.toNat + n)
      rw [hg] at this
      simp at this
      simp [this]
     refine ⟨by simp [h1], .inr (by omega), fun j hj => ?_, fun i => ?_⟩
     ·by_cases e : j = n
      ·subst e; exact h5
      ·exact h3 j (by omega)
     ·rw [getD_set (by omega), h4 i, Bool.or_assoc]
      congr 1
      rw [Bool.eq_iff_iff]
      simp
      omega
    | true =>
     simp only [Bool.not_true, Bool.and_false, cond_false, MarkSpec]
     refine .inr ⟨n, by omega, ?_⟩
     have := h4 (b.toNat + n)
     rw [hg] at this
     simpa using this.symm
   ·simp only [hc, decide_false, Bool.false_and, cond_false, MarkSpec]
    left; omega
def NodeSpec (s : State) (k : Nat) : Option (List Bool) → Prop
 | some h => h.length = s.slots.length ∧ (∀ n, n < k → fitN s n) ∧ (∀ n, n < k → ∀ m, m < n → apartN s n m) ∧ ∀ i : Nat, i < s.slots.length → (h.getD i false = true ↔ ∃ n, n < k ∧ tHas (s.thing n) i = true)
 | none => ¬ ((∀ n, n < k → fitN s n) ∧ (∀ n, n < k → ∀ m, m < n → apartN s n m))
theorem tHas_iff {t : Thing} {i : Int} : tHas t i = true ↔ t.ty = 2 ∧ t.base ≤ i ∧ i < t.base + p2 t.bits := by simp [tHas]
theorem nodes_spec {s : State} (ok : ThingsOk s) : ∀ k : Nat, k ≤ s.things.length → NodeSpec s k (nodesHad s k)
 | 0, _ => by
  simp only [nodesHad, List.range_zero, List.foldl_nil, NodeSpec]
  refine ⟨by simp, by simp, by simp, fun i hi => ?_⟩
  simp [List.getD, hi]
 | k + 1, hk => by
  have ih := nodes_spec ok k (by omega)
  rw [nodesHad_succ]
  cases e : nodesHad s k with
  | none =>
   rw [e] at ih
   have : nodeStep s none k = none := by simp only [nodeStep]; rw [mark_none]; cases decide ((s.thing k).ty = 2) <;> rfl
   rw [this]
   simp only [NodeSpec] at ih ⊢
   exact fun ⟨a, b⟩ => ih ⟨fun n hn => a n (by omega), fun n hn => b n (by omega)⟩
  | some h =>
   rw [e] at ih
   obtain ⟨h1, h2, h3, h4⟩ := ih
   simp only [nodeStep]
   by_cases ht : (s.thing k).ty = 2
   ·have hg := tGood_node (ok k hk) ht
    have hp := p2_bits hg.1
    simp only [ht, decide_true, cond_true]
    have hm := marks_spec hg.2.1 (had := h) (p2 (s.thing k).bits).toNat
    have hpc : (((p2 (s.thing k).bits).toNat : Nat) : Int) = p2 (s.thing k).bits := by omega
    change NodeSpec s (k + 1) (marks (s.thing k).base h (p2 (s.thing k).bits).toNat)
    cases em : marks (s.thing k).base h (p2 (s.thing k).bits).toNat with
    | none =>
     rw [em] at hm
     simp only [MarkSpec, NodeSpec] at hm ⊢
     rintro ⟨a, b⟩
     rcases hm with hm | ⟨j, hj, hm⟩
     ·have := a k (by omega) ht
      omega
     ·have hf := a k (by omega) ht
      have hlt : (s.thing k).base.toNat + j < s.slots.length := by omega
      obtain ⟨n, hn, hh⟩ := (h4 _ hlt).1 hm
      exact b k (by omega) n hn _ (tHas_iff.2 ⟨ht, by omega, by omega⟩) hh
    | some h' =>
     rw [em] at hm
     obtain ⟨m1, m2, m3, m4⟩ := hm
     simp only [NodeSpec]
     refine ⟨by omega, fun n hn => ?_, fun n hn m hm => ?_, fun i hi => ?_⟩
     ·by_cases e : n = k
      ·subst e; intro _; omega
      ·exact h2 n (by omega)
     ·by_cases e : n = k
      ·subst e
       intro i a b
       rw [tHas_iff] at a
       have hlt : i < s.slots.length := by omega
       have := (h4 i hlt).2 ⟨m, hm, b⟩
       have h6 := m3 (i - (s.thing n).base.toNat) (by omega)
       rw [show (s.thing n).base.toNat + (i - (s.thing n).base.toNat) = i by omega, this] at h6
       cases h6
      ·exact h3 n (by omega) m hm
     ·rw [m4 i]
      simp only [Bool.or_eq_true, Bool.and_eq_true, decide_eq_true_eq, h4 i hi]
      constructor
      ·rintro (⟨n, hn, a⟩ | a)
       ·exact ⟨n, by omega, a⟩
       ·exact ⟨k, by omega, tHas_iff.2 ⟨ht, by omega, by omega⟩⟩
      ·rintro ⟨n, hn, a⟩
       by_cases e : n = k
       ·subst e
        rw [tHas_iff] at a
        exact .inr (by omega)
       ·exact .inl ⟨n, by omega, a⟩
   ·simp only [ht, decide_false, cond_false, NodeSpec]
    have hno : ∀ i : Int, tHas (s.thing k) i = false := fun i => by simp [tHas, ht]
    refine ⟨h1, fun n hn => ?_, fun n hn m hm => ?_, fun i hi => ?_⟩
    ·by_cases e : n = k
     ·subst e; exact fun h => absurd h ht
     ·exact h2 n (by omega)
    ·by_cases e : n = k
     ·subst e; intro i a; rw [hno] at a; cases a
     ·exact h3 n (by omega) m hm
    ·rw [h4 i hi]
     constructor
     ·rintro ⟨n, hn, a⟩; exact ⟨n, by omega, a⟩
     ·rintro ⟨n, hn, a⟩
      by_cases e : n = k
      ·subst e; rw [hno] at a; cases a
      ·exact ⟨n, by omega, a⟩
theorem sNodes_iff {s : State} (ok : ThingsOk s) : sNodes s = true ↔ (∀ n, n < s.things.length → fitN s n) ∧ (∀ n, n < s.things.length → ∀ m, m < n → apartN s n m) ∧
 ∀ i : Nat, i < s.slots.length → cNone (s.slot i).cap = false → ∃ n, n < s.things.length ∧ tHas (s.thing n) i = true := by
 have h := nodes_spec ok s.things.length (Nat.le_refl _)
 simp only [sNodes]
 cases e : nodesHad s s.things.length with
 | none =>
  rw [e] at h
  simp only [NodeSpec] at h
  simp only [Bool.false_eq_true, false_iff]
  exact fun ⟨a, b, _⟩ => h ⟨a, b⟩
 | some l =>
  rw [e] at h
  obtain ⟨h1, h2, h3, h4⟩ := h
  simp only [List.all_eq_true, List.mem_range, Bool.or_eq_true]
  constructor
  ·intro h
   refine ⟨h2, h3, fun i hi hn => ?_⟩
   rcases h i hi with h | h
   ·exact (h4 i hi).1 h
   ·rw [hn] at h; cases h
  ·rintro ⟨_, _, h⟩ i hi
   cases hn : cNone (s.slot i).cap with
   | true => exact .inr rfl
   | false => exact .inl ((h4 i hi).2 (h i hi hn))
theorem findI_spec (p : Nat → Bool) (n : Nat) : (findI p n = -1 ∧ ∀ k, k < n → p k = false) ∨ ∃ k, k < n ∧ p k = true ∧ (∀ j, j < k → p j = false) ∧ findI p n = k := by
 simp only [findI]
 cases e : (List.range n).find? p with
 | none =>
  rw [List.find?_eq_none] at e
  exact .inl ⟨rfl, fun k hk => by simpa using e k (List.mem_range.2 hk)⟩
 | some k =>
  rw [List.find?_range_eq_some] at e
  exact .inr ⟨k, by simpa using e.2.1, e.1, fun j hj => by simpa using e.2.2 j hj, rfl⟩
theorem owner_eq {s : State} (ap : ∀ n, n < s.things.length → ∀ m, m < n → apartN s n m) {n i : Nat} (hn : n < s.things.length) (h : tHas (s.thing n) i = true) : sOwner s i = n := by
 simp only [sOwner]
 rcases findI_spec (fun k => tHas (s.thing k) i) s.things.length with ⟨_, h1⟩ | ⟨k, hk, h1, h2, h3⟩
 ·rw [h1 n hn] at h; cases h
 ·rw [h3]
  by_cases e : k = n
  ·rw [e]
  ·by_cases hlt : k < n
   ·exact absurd (ap n hn k hlt i h h1) id
   ·have := h2 n (by omega); rw [h] at this; cases this
theorem owner_has {s : State} {i : Int} (h : sOwner s i ≠ -1) : ∃ n, n < s.things.length ∧ tHas (s.thing n) i = true ∧ sOwner s i = (n : Int) := by
 simp only [sOwner] at h ⊢
 rcases findI_spec (fun k => tHas (s.thing k) i) s.things.length with ⟨h0, _⟩ | ⟨k, hk, h1, _, h3⟩
 ·exact absurd h0 h
 ·exact ⟨k, hk, h1, h3⟩
theorem owner_none {s : State} {i : Int} (h : sOwner s i = -1) {n : Nat} (hn : n < s.things.length) : tHas (s.thing n) i = false := by
 simp only [sOwner] at h
 rcases findI_spec (fun k => tHas (s.thing k) i) s.things.length with ⟨_, h0⟩ | ⟨k, hk, h1, _, h3⟩
 ·exact h0 n hn
 ·rw [h3] at h; omega
theorem fIs_iff {up : List Int} {i : Int} : fIs up i = true ↔ 0 ≤ i ∧ i < up.length ∧ ¬ up.getD i.toNat 0 = -2 := by
 simp only [fIs, Bool.and_eq_true, decide_eq_true_eq, Bool.not_eq_true', decide_eq_false_iff_not]
def steps (up : List Int) : Nat → Int → Nat
 | 0, _ => 0
 | n + 1, i => if fIs up i = true then steps up n (up.getD i.toNat 0) + 1 else 0
theorem steps_more {up : List Int} : ∀ {n : Nat} {i : Int}, fEnds up n i = true → steps up (n + 1) i = steps up n i
 | 0, i, h => by
  have h : fIs up i = false := by simpa [fEnds] using h
  simp [steps, h]
 | n + 1, i, h => by
  by_cases hi : fIs up i = true
  ·have h : fEnds up n (up.getD i.toNat 0) = true := by simpa [fEnds, hi] using h
   have ih := steps_more h
   simp only [steps, if_pos hi] at ih ⊢
   rw [ih]
  ·simp only [steps, if_neg hi]
def Ranked (up : List Int) : Prop := ∃ r : Nat → Nat, ∀ i : Nat, i < up.length → fIs up i = true → fIs up (up.getD i 0) = true → r (up.getD i 0).toNat < r i
theorem ranked_of {up : List Int} (h : (List.range up.length).all (fun i => fEnds up (up.length + 1) i) = true) : Ranked up := by
 refine ⟨fun i => steps up (up.length + 1) i, fun i hi h1 h2 => ?_⟩
 have he := List.all_eq_true.1 h i (List.mem_range.2 hi)
 have h2' := h2
 rw [fIs_iff] at h2'
 have e : (((up.getD i 0).toNat : Nat) : Int) = up.getD i 0 := by omega
 simp only [e]
 have he2 : fEnds up up.length (up.getD i 0) = true := by simpa [fEnds, h1] using he
 rw [steps_more he2]
 conv => rhs; rw [steps]
 rw [if_pos h1]
 simp
theorem ends_of {up : List Int} (h : Ranked up) : (List.range up.length).all (fun i => fEnds up (up.length + 1) i) = true := by
 obtain ⟨r, hr⟩ := h
 have hc : ∀ i : Nat, i < up.length → fIs up i = true → fIs up (up.getD i 0) = true → (List.range up.length).countP (fun k => decide (r k < r (up.getD i 0).toNat)) < (List.range up.length).countP fun k => decide (r k < r i) := by
  intro i hi h1 h2
  have hlt := hr i hi h1 h2
  have h2' := h2
  rw [fIs_iff] at h2'
  refine countP_lt (fun k _ hk => ?_) ⟨(up.getD i 0).toNat, List.mem_range.2 (by omega), ?_, ?_⟩
  ·simp only [decide_eq_true_eq] at hk ⊢; omega
  ·simp only [decide_eq_true_eq]; exact hlt
  ·simp
 have key : ∀ (n : Nat) (i : Nat), i < up.length → (List.range up.length).countP (fun k => decide (r k < r i)) ≤ n → fEnds up (n + 1) i = true := by
  intro n
  induction n with
  | zero =>
   intro i hi hn
   rw [fEnds]
   cases h1 : fIs up i with
   | false => rfl
   | true =>
    cases h2 : fIs up (up.getD i 0) with
    | false => simp only [fEnds, Int.toNat_natCast, h2]; rfl
    | true => have := hc i hi h1 h2; omega
  | succ n ih =>
   intro i hi hn
   rw [fEnds]
   cases h1 : fIs up i with
   | false => rfl
   | true =>
    cases h2 : fIs up (up.getD i 0) with
    | false => rw [fEnds]; simp only [Int.toNat_natCast, h2]; rfl
    | true =>
     have h3 := hc i hi h1 h2
     have h2' := h2
     rw [fIs_iff] at h2'
     have e : (((up.getD i 0).toNat : Nat) : Int) = up.getD i 0 := by omega
     have := ih (up.getD i 0).toNat (by omega) (by omega)
     rw [e] at this
     simp only [Int.toNat_natCast, this, Bool.or_true]
 rw [List.all_eq_true]
 intro i hi
 have hi := List.mem_range.1 hi
 exact key _ i hi (Nat.le_trans List.countP_le_length (by simp))
def State.non (s : State) (i : Nat) : Prop := cNone (s.slot i).cap = false
structure Inv (s : State) : Prop where
 geo : gGood s.geo = true
 lenS : (s.slots.length : Int) = s.geo.slots
 lenT : (s.things.length : Int) = s.geo.things
 capG : ∀ i, i < s.slots.length → cGood (s.slot i).cap = true
 upN : ∀ i, i < s.slots.length → cNone (s.slot i).cap = true → (s.slot i).up = -1
 capT : ∀ i, i < s.slots.length → s.non i → sThere s (s.slot i).cap.th = true ∧ (s.thing (s.slot i).cap.th.toNat).ty = (s.slot i).cap.ty
 tGood : ∀ k, k < s.things.length → tGood (s.thing k) = true
 from_ : ∀ k, k < s.things.length → 0 < (s.thing k).from_ → (s.thing k).from_ ≤ s.slots.length ∧ s.non ((s.thing k).from_ - 1).toNat
 root : ∀ k, k < s.things.length → rootB s k = true → s.thing k = rootT s.geo ((k : Int) - 2)
 held : ∀ k, k < s.things.length → rootB s k = false → (s.thing k).ty ≠ 0 → ∃ i, i < s.slots.length ∧ s.non i ∧ (s.slot i).cap.th = k
 fit : ∀ k, k < s.things.length → fitN s k
 apart : ∀ n, n < s.things.length → ∀ m, m < n → apartN s n m
 has : ∀ i, i < s.slots.length → s.non i → ∃ n, n < s.things.length ∧ tHas (s.thing n) i = true
 ring : ∀ n : Nat, n < s.things.length → ∀ m, Edge s n m → ¬ Reach s m n
 up : ∀ i, i < s.slots.length → s.non i → (s.slot i).up = -1 ∨ (0 ≤ (s.slot i).up ∧ (s.slot i).up < s.slots.length ∧ s.non (s.slot i).up.toNat)
 rank : ∃ r : Nat → Nat, ∀ i, i < s.slots.length → s.non i → 0 ≤ (s.slot i).up → r (s.slot i).up.toNat < r i
 allow : ∀ i, i < s.slots.length → s.non i → 0 ≤ (s.slot i).up → cLess (s.slot i).cap (s.slot (s.slot i).up.toNat).cap = true ∨ ((s.slot (s.slot i).up.toNat).cap.ty = 1 ∧ (s.slot i).cap.th ≠ (s.slot (s.slot i).up.toNat).cap.th)
theorem slots_all {s : State} {p : Slot → Bool} : s.slots.all p = true ↔ ∀ i, i < s.slots.length → p (s.slot i) = true := by
 rw [List.all_eq_true]
 constructor
 ·exact fun h i hi => h _ (slot_mem hi)
 ·intro h x hx
  obtain ⟨i, hi, rfl⟩ := List.mem_iff_getElem.1 hx
  have := h i hi
  simpa [State.slot, List.getD, hi] using this
theorem ne_none {c : Cap} (h : c.ty ≠ 0) : cNone c = false := by simp [cNone, h]
theorem forest_is {s : State} {i : Int} (hu : ∀ i, i < s.slots.length → s.non i → -1 ≤ (s.slot i).up) : fIs (sForest s) i = true ↔ 0 ≤ i ∧ i < s.slots.length ∧ s.non i.toNat := by
 simp only [fIs, Bool.and_eq_true, decide_eq_true_eq, Bool.not_eq_true', decide_eq_false_iff_not, sForest_length]
 constructor
 ·rintro ⟨a, b, c⟩
  refine ⟨a, b, ?_⟩
  rw [sForest_get (by omega)] at c
  simp only [State.non]
  cases h : cNone (s.slot i.toNat).cap with
  | false => rfl
  | true => simp [upOf, h] at c
 ·rintro ⟨a, b, c⟩
  refine ⟨a, b, ?_⟩
  rw [sForest_get (by omega)]
  have := hu _ (by omega) c
  simp only [State.non] at c
  simp only [upOf, c, cond_false]
  omega
theorem Inv.of {s : State} (h : StOk s) : Inv s := by
 have hc := slots_all.1 (show s.slots.all (capOk s) = true by have := h.caps; simpa [sCaps] using this)
 have ht := fun k hk => List.all_eq_true.1 (show (List.range s.things.length).all (thingOk s) = true by have := h.thingsB; simpa [sThings] using this) k (List.mem_range.2 hk)
 obtain ⟨n1, n2, n3⟩ := (sNodes_iff h.ok).1 h.nodes
 have hcN : ∀ i, i < s.slots.length → s.non i → -1 ≤ (s.slot i).up ∧ sThere s (s.slot i).cap.th = true ∧ (s.thing (s.slot i).cap.th.toNat).ty = (s.slot i).cap.ty := by
  intro i hi hn
  have := hc i hi
  simp only [State.non] at hn
  simp [capOk, hn] at this
  exact ⟨this.2.1, this.2.2⟩
 have hf := h.forest
 simp only [fGood, Bool.and_eq_true, decide_eq_true_eq] at hf
 have his := fun i => forest_is (s := s) (i := i) fun i hi hn => (hcN i hi hn).1
 have hup : ∀ i, i < s.slots.length → s.non i → (s.slot i).up = -1 ∨ (0 ≤ (s.slot i).up ∧ (s.slot i).up < s.slots.length ∧ s.non (s.slot i).up.toNat) := by
  intro i hi hn
  have := List.all_eq_true.1 hf.2.1 (upOf (s.slot i)) (by simp [sForest]; exact ⟨_, slot_mem hi, rfl⟩)
  have hn' := hn
  simp only [State.non] at hn'
  simp only [upOf, hn', cond_false, fUp, Bool.or_eq_true, decide_eq_true_eq] at this
  rcases this with h1 | h1 | h1
  ·have := (hcN i hi hn).1; omega
  ·exact .inl h1
  ·exact .inr ((his _).1 h1)
 have hal := slots_all.1 (show s.slots.all (allowedB s) = true by have := h.allowed; simpa [sAllowed] using this)
 refine ⟨h.geo, h.slots, h.things, fun i hi => ?_, fun i hi hn => ?_, fun i hi hn => (hcN i hi hn).2, fun k hk => h.ok k hk, fun k hk h0 => from_ok h hk h0, fun k hk hr => ?_, fun k hk hr hty => ?_, n1, n2, n3, fun n hn m e => ?_, hup, ?_, fun i hi hn h0 => ?_⟩
 ·have := hc i hi
  simp only [capOk, Bool.and_eq_true] at this
  exact this.1
 ·have := hc i hi
  simp [capOk, hn] at this
  exact this.2
 ·have := ht k hk
  simp only [thingOk, hr, cond_true, Bool.and_eq_true, tEq_iff] at this
  exact this.2.2
 ·have := ht k hk
  simp only [thingOk, hr, cond_false, Bool.and_eq_true, Bool.or_eq_true, decide_eq_true_eq, hty, false_or, Bool.not_eq_true', decide_eq_false_iff_not] at this
  have hne := this.2.2
  cases hl : sHolders s k with
  | nil => rw [hl] at hne; simp at hne
  | cons a l =>
   have ha : a ∈ sHolders s k := by rw [hl]; exact List.mem_cons_self
   simp only [sHolders, pick, List.mem_map, List.mem_filter, List.mem_range] at ha
   obtain ⟨i, ⟨hi, hb⟩, _⟩ := ha
   simp only [holdB, Bool.and_eq_true, Bool.not_eq_true', decide_eq_true_eq] at hb
   exact ⟨i, hi, hb.1, hb.2⟩
 ·obtain ⟨-, i, hi, a, b, c, rfl⟩ := e
  intro r
  have hnr : ringB s i = false := by
   have h1 : (!(List.range s.slots.length).all fun i => !ringB s i) = false := by have := h.ring; simpa only [sRing] using this
   simp only [Bool.not_eq_false'] at h1
   have := List.all_eq_true.1 h1 i (List.mem_range.2 hi)
   simpa using this
  have hin : sInside s (s.slot i).cap.th i = true := by
   rw [sInside_iff]
   refine ⟨c, ?_, ?_⟩
   ·rw [(hcN i hi (ne_none (by omega))).2.2]; exact a
   ·rw [owner_eq n2 hn b]; exact r
  simp [ringB, a, hin] at hnr
 ·obtain ⟨r, hr⟩ := ranked_of hf.2.2
  refine ⟨r, fun i hi hn h0 => ?_⟩
  have hn' := hn
  simp only [State.non] at hn'
  have hg : (sForest s).getD i 0 = (s.slot i).up := by rw [sForest_get hi]; simp [upOf, hn']
  have := hr i (by rw [sForest_length]; exact hi) ((his _).2 ⟨by omega, by omega, by simpa using hn⟩)
  rw [hg] at this
  refine this ((his _).2 ?_)
  rcases hup i hi hn with h1 | h1
  ·omega
  ·exact h1
 ·have := hal i hi
  simp only [allowedB, Bool.or_eq_true, decide_eq_true_eq, Bool.and_eq_true, Bool.not_eq_true', decide_eq_false_iff_not] at this
  rcases this with h1 | h1 | h1
  ·omega
  ·exact .inl h1
  ·exact .inr h1
theorem Inv.ok {s : State} (h : Inv s) : StOk s := by
 have his := fun i => forest_is (s := s) (i := i) fun i hi hn => by rcases h.up i hi hn with h1 | h1 <;> omega
 have hg := gGood_bb h.geo
 have hS := h.lenS
 refine ⟨h.geo, h.lenS, h.lenT, ?_, ?_, (sNodes_iff h.tGood).2 ⟨h.fit, h.apart, h.has⟩, ?_, ?_, ?_⟩
 ·simp only [sCaps]
  rw [slots_all]
  intro i hi
  simp only [capOk, h.capG i hi, Bool.true_and]
  cases hn : cNone (s.slot i).cap with
  | true => simp [h.upN i hi hn]
  | false =>
   have h1 := h.capT i hi hn
   simp only [cond_false, Bool.false_or, h1.1, h1.2, decide_true, Bool.and_true, decide_eq_true_eq]
   rcases h.up i hi hn with h2 | h2 <;> omega
 ·simp only [sThings]
  rw [List.all_eq_true]
  intro k hk
  have hk := List.mem_range.1 hk
  simp only [thingOk, h.tGood k hk, Bool.true_and, Bool.and_eq_true]
  constructor
  ·simp only [fromOk, Bool.or_eq_true, Bool.not_eq_true', decide_eq_false_iff_not, Bool.and_eq_true]
   by_cases h0 : 0 < (s.thing k).from_
   ·have := h.from_ k hk h0
    exact .inr ⟨by omega, this.2⟩
   ·exact .inl h0
  ·cases hr : rootB s k with
   | true => simp only [cond_true, tEq_iff]; exact h.root k hk hr
   | false =>
    simp only [cond_false, Bool.or_eq_true, decide_eq_true_eq, Bool.not_eq_true', decide_eq_false_iff_not]
    by_cases h0 : (s.thing k).ty = 0
    ·exact .inl h0
    ·right
     obtain ⟨i, hi, a, b⟩ := h.held k hk hr h0
     have : (i : Int) ∈ sHolders s k := by
      simp only [sHolders, pick, List.mem_map, List.mem_filter, List.mem_range]
      refine ⟨i, ⟨hi, ?_⟩, rfl⟩
      simp only [State.non] at a
      simp only [holdB, a, b, Bool.not_false, decide_true, Bool.and_self]
     intro e
     have e : (sHolders s k).length = 0 := by omega
     rw [List.length_eq_zero_iff] at e
     rw [e] at this
     cases this
 ·simp only [sRing, Bool.not_eq_false']
  rw [List.all_eq_true]
  intro i hi
  have hi := List.mem_range.1 hi
  cases hb : ringB s i with
  | false => rfl
  | true =>
   simp only [ringB, Bool.and_eq_true, decide_eq_true_eq] at hb
   obtain ⟨a, b⟩ := hb
   rw [sInside_iff] at b
   have hn : s.non i := ne_none (by omega)
   obtain ⟨n, hn1, hn2⟩ := h.has i hi hn
   rw [owner_eq h.apart hn1 hn2] at b
   exact absurd b.2.2 (h.ring n hn1 _ ⟨by omega, i, hi, a, by simpa using hn2, b.1, rfl⟩)
 ·simp only [fGood, Bool.and_eq_true, decide_eq_true_eq]
  refine ⟨by rw [sForest_length]; omega, ?_, ends_of ?_⟩
  ·rw [List.all_eq_true]
   intro u hu
   simp only [sForest, List.mem_map] at hu
   obtain ⟨x, hx, rfl⟩ := hu
   obtain ⟨i, hi, rfl⟩ := List.mem_iff_getElem.1 hx
   have e : s.slots[i] = s.slot i := by simp [State.slot, List.getD, hi]
   rw [e]
   cases hn : cNone (s.slot i).cap with
   | true => simp [upOf, hn, fUp]
   | false =>
    simp only [upOf, hn, cond_false, fUp, Bool.or_eq_true, decide_eq_true_eq]
    rcases h.up i hi hn with h1 | h1
    ·exact .inr (.inl h1)
    ·exact .inr (.inr ((his _).2 h1))
  ·obtain ⟨r, hr⟩ := h.rank
   refine ⟨r, fun i hi h1 h2 => ?_⟩
   rw [sForest_length] at hi
   have h1 := (his _).1 h1
   have hn : s.non i := by simpa using h1.2.2
   have hn' := hn
   simp only [State.non] at hn'
   have hg : (sForest s).getD i 0 = (s.slot i).up := by rw [sForest_get hi]; simp [upOf, hn']
   rw [hg] at h2 ⊢
   exact hr i hi hn ((his _).1 h2).1
 ·simp only [sAllowed]
  rw [slots_all]
  intro i hi
  simp only [allowedB, Bool.or_eq_true, decide_eq_true_eq, Bool.and_eq_true, Bool.not_eq_true', decide_eq_false_iff_not]
  by_cases h0 : (s.slot i).up < 0
  ·exact .inl h0
  ·right
   refine h.allow i hi ?_ (by omega)
   simp only [State.non]
   cases hn : cNone (s.slot i).cap with
   | false => rfl
   | true => have := h.upN i hi hn; omega
theorem inv_iff {s : State} : sGood s = true ↔ Inv s := ⟨fun h => .of (stOk_of h), fun h => h.ok.good⟩
end Go.Ax.M
namespace Go.Ax.M
open Go Go.Ax
theorem slot_set {s : State} {i k : Nat} {x : Slot} (hi : i < s.slots.length) : ({ s with slots := s.slots.set i x } : State).slot k = if k = i then x else s.slot k := by
 simp only [State.slot, List.getD]
 by_cases e : k = i
 ·subst e; simp [hi]
 ·rw [List.getElem?_set_ne (fun h => e h.symm), if_neg e]
theorem thing_set {s : State} {i k : Nat} {x : Thing} (hi : i < s.things.length) : ({ s with things := s.things.set i x } : State).thing k = if k = i then x else s.thing k := by
 simp only [State.thing, List.getD]
 by_cases e : k = i
 ·subst e; simp [hi]
 ·rw [List.getElem?_set_ne (fun h => e h.symm), if_neg e]
theorem there_iff {s : State} {t : Int} : sThere s t = true ↔ 0 ≤ t ∧ t < s.things.length ∧ (s.thing t.toNat).ty ≠ 0 := by simp [sThere]
theorem non_ty {s : State} (h : Inv s) {i : Nat} (hi : i < s.slots.length) (hn : s.non i) : 1 ≤ (s.slot i).cap.ty ∧ (s.slot i).cap.ty ≤ 5 := by
 have := h.capG i hi
 simp only [State.non] at hn
 simp [cGood, hn, inB] at this
 omega
theorem non_of {s : State} {i : Nat} (h : (s.slot i).cap.ty ≠ 0) : s.non i := ne_none h
theorem none_cap {c : Cap} (h : cNone c = true) : c = .zero := by
 obtain ⟨a, b, d, e⟩ := c
 simp [cNone] at h
 simp [Cap.zero, h]
theorem cLess_eq {a b : Cap} (h : cLess a b = true) (hn : cNone a = false) : a.ty = b.ty ∧ a.th = b.th := by
 simp [cLess, hn] at h
 exact ⟨h.1, h.2.1⟩
theorem reach_add {s u : State} {o t : Int} (he : ∀ n m, Edge u n m → Edge s n m ∨ (n = o ∧ m = t)) {n m : Int} (r : Reach u n m) : Reach s n m ∨ (Reach s n o ∧ Reach s t m) := by
 induction r with
 | refl => exact .inl .refl
 | step e _ ih =>
  rcases he _ _ e with e | ⟨rfl, rfl⟩
  ·rcases ih with h | ⟨h1, h2⟩
   ·exact .inl (.step e h)
   ·exact .inr ⟨.step e h1, h2⟩
  ·rcases ih with h | ⟨h1, h2⟩
   ·exact .inr ⟨.refl, h⟩
   ·exact .inr ⟨.refl, h2⟩
theorem ring_add {s u : State} {o t : Int} (hr : ∀ n : Nat, n < s.things.length → ∀ m, Edge s n m → ¬ Reach s m n) (hT : u.things.length = s.things.length)
 (he : ∀ n m, Edge u n m → Edge s n m ∨ (n = o ∧ m = t)) (hto : ¬ Reach s t o) : ∀ n : Nat, n < u.things.length → ∀ m, Edge u n m → ¬ Reach u m n := by
 intro n hn m e r
 rcases he _ _ e with e | ⟨rfl, rfl⟩
 ·rcases reach_add he r with h | ⟨h1, h2⟩
  ·exact hr n (hT ▸ hn) m e h
  ·exact hto (h2.trans (.step e h1))
 ·rcases reach_add he r with h | ⟨h1, h2⟩
  ·exact hto h
  ·exact hto h2
theorem ring_sub {s u : State} (hr : ∀ n : Nat, n < s.things.length → ∀ m, Edge s n m → ¬ Reach s m n) (hT : u.things.length = s.things.length)
 (he : ∀ n m, Edge u n m → Edge s n m) : ∀ n : Nat, n < u.things.length → ∀ m, Edge u n m → ¬ Reach u m n :=
 fun n hn m e r => hr n (hT ▸ hn) m (he _ _ e) (r.mono he)
theorem Inv.put {s u : State} (h : Inv s) {fr to : Nat} {c : Cap} (hf : fr < s.slots.length) (ht : to < s.slots.length) (hg : u.geo = s.geo) (hT : u.things = s.things) (hS : u.slots.length = s.slots.length)
 (hsl : ∀ k, u.slot k = if k = to then ⟨c, (fr : Int)⟩ else s.slot k) (hc : cGood c = true) (hn : cNone c = false) (ho : ∃ n, n < s.things.length ∧ tHas (s.thing n) to = true) (hfn : s.non fr) (hte : cNone (s.slot to).cap = true)
 (hct : sThere s c.th = true ∧ (s.thing c.th.toNat).ty = c.ty) (ha : cLess c (s.slot fr).cap = true ∨ ((s.slot fr).cap.ty = 1 ∧ c.th ≠ (s.slot fr).cap.th)) (hr : c.ty = 2 → ¬ Reach s c.th (sOwner s to)) : Inv u := by
 have hne : fr ≠ to := by rintro rfl; simp only [State.non] at hfn; rw [hfn] at hte; cases hte
 have hth : ∀ k, u.thing k = s.thing k := fun k => by simp only [State.thing, hT]
 have hto : u.slot to = ⟨c, (fr : Int)⟩ := by rw [hsl, if_pos rfl]
 have hel : ∀ k, k ≠ to → u.slot k = s.slot k := fun k hk => by rw [hsl, if_neg hk]
 have hthere : ∀ t, sThere u t = sThere s t := fun t => by simp only [sThere, hth, hT]
 have hnto : ∀ k, s.non k → k ≠ to := by rintro k hk rfl; simp only [State.non] at hk; rw [hk] at hte; cases hte
 have hnon : ∀ k, s.non k → u.non k := fun k hk => by simp only [State.non, hel k (hnto k hk)]; exact hk
 have hno : ∀ k, u.non k → k = to ∨ (k ≠ to ∧ s.non k) := fun k hk => by
  by_cases e : k = to
  ·exact .inl e
  ·exact .inr ⟨e, by simp only [State.non, hel k e] at hk; exact hk⟩
 have hT' : u.things.length = s.things.length := by rw [hT]
 refine ⟨by rw [hg]; exact h.geo, by rw [hS, hg]; exact h.lenS, by rw [hT, hg]; exact h.lenT, fun i hi => ?_, fun i hi hin => ?_, fun i hi hin => ?_, fun k hk => by rw [hth]; exact h.tGood k (hT' ▸ hk),
  fun k hk h0 => ?_, fun k hk hrb => by rw [hth, hg]; exact h.root k (hT' ▸ hk) (by simpa only [rootB, hg] using hrb), fun k hk hrb hty => ?_, fun k hk => by have := h.fit k (hT' ▸ hk); simpa only [fitN, hth, hS] using this,
  fun n hn m hm => by have := h.apart n (hT' ▸ hn) m hm; simpa only [apartN, hth] using this, fun i hi hin => ?_, ?_, fun i hi hin => ?_, ?_, fun i hi hin h0 => ?_⟩
 ·by_cases e : i = to
  ·subst e; rw [hto]; exact hc
  ·rw [hel i e]; exact h.capG i (hS ▸ hi)
 ·by_cases e : i = to
  ·subst e; rw [hto] at hin; rw [hn] at hin; cases hin
  ·rw [hel i e] at hin ⊢; exact h.upN i (hS ▸ hi) hin
 ·rw [hthere, hth]
  rcases hno i hin with rfl | ⟨e, hin'⟩
  ·rw [hto]; exact hct
  ·rw [hel i e]; exact h.capT i (hS ▸ hi) hin'
 ·rw [hth] at h0 ⊢
  have := h.from_ k (hT' ▸ hk) h0
  exact ⟨by rw [hS]; exact this.1, hnon _ this.2⟩
 ·rw [hth] at hty
  obtain ⟨i, hi, a, b⟩ := h.held k (hT' ▸ hk) (by simpa only [rootB, hg] using hrb) hty
  exact ⟨i, hS ▸ hi, hnon i a, by rw [hel i (hnto i a)]; exact b⟩
 ·rcases hno i hin with rfl | ⟨e, hin'⟩
  ·obtain ⟨n, a, b⟩ := ho; exact ⟨n, hT' ▸ a, by rw [hth]; exact b⟩
  ·obtain ⟨n, a, b⟩ := h.has i (hS ▸ hi) hin'; exact ⟨n, hT' ▸ a, by rw [hth]; exact b⟩
 ·by_cases h2 : c.ty = 2
  ·refine ring_add (o := sOwner s to) (t := c.th) h.ring hT' (fun n m e => ?_) (hr h2)
   obtain ⟨n0, i, hi, a, b, d, rfl⟩ := e
   rw [hth] at b
   by_cases e : i = to
   ·subst e
    right
    obtain ⟨k, hk, hk2⟩ := ho
    rw [hto]
    refine ⟨?_, rfl⟩
    have : n.toNat < s.things.length := by
     by_cases hlt : n.toNat < s.things.length
     ·exact hlt
     ·have hz : s.thing n.toNat = .zero := by simp [State.thing, List.getD, List.getElem?_eq_none (by omega : s.things.length ≤ n.toNat)]
      rw [hz] at b; simp [tHas, Thing.zero] at b
    rw [owner_eq h.apart this b]; omega
   ·rw [hel i e] at a d ⊢
    rw [hthere] at d
    exact .inl ⟨n0, i, hS ▸ hi, a, b, d, rfl⟩
  ·refine ring_sub h.ring hT' fun n m e => ?_
   obtain ⟨n0, i, hi, a, b, d, rfl⟩ := e
   rw [hth] at b
   by_cases e : i = to
   ·subst e; rw [hto] at a; exact absurd a h2
   ·rw [hel i e] at a d ⊢
    rw [hthere] at d
    exact ⟨n0, i, hS ▸ hi, a, b, d, rfl⟩
 ·rcases hno i hin with rfl | ⟨e, hin'⟩
  ·rw [hto]; exact .inr ⟨by simp, by simp; omega, by simpa using hnon fr hfn⟩
  ·rw [hel i e]
   rcases h.up i (hS ▸ hi) hin' with h1 | ⟨h1, h2, h3⟩
   ·exact .inl h1
   ·exact .inr ⟨h1, by omega, hnon _ h3⟩
 ·obtain ⟨r, hr⟩ := h.rank
  refine ⟨fun k => if k = to then r fr + 1 else r k, fun i hi hin h0 => ?_⟩
  rcases hno i hin with rfl | ⟨e, hin'⟩
  ·rw [hto]; simp [hne]
  ·rw [hel i e] at h0 ⊢
   have h4 := hr i (hS ▸ hi) hin' h0
   have h5 : (s.slot i).up.toNat ≠ to := by
    rcases h.up i (hS ▸ hi) hin' with h1 | ⟨h1, h2, h3⟩
    ·omega
    ·exact hnto _ h3
   simp only [if_neg h5, if_neg e]; exact h4
 ·rcases hno i hin with rfl | ⟨e, hin'⟩
  ·rw [hto]; simp only [Int.toNat_natCast]; rw [hel fr hne]; exact ha
  ·rw [hel i e] at h0 ⊢
   have h5 : (s.slot i).up.toNat ≠ to := by
    rcases h.up i (hS ▸ hi) hin' with h1 | ⟨h1, h2, h3⟩
    ·omega
    ·exact hnto _ h3
   rw [hel _ h5]; exact h.allow i (hS ▸ hi) hin' h0
theorem putE_zero {s : State} {fr to : Int} {c : Cap} (he : putE s fr to c = 0) : Inv s ∧ 0 ≤ fr ∧ fr < s.slots.length ∧ 0 ≤ to ∧ to < s.slots.length ∧ cGood c = true ∧ cNone c = false ∧ 0 ≤ sOwner s to ∧ s.non fr.toNat ∧
 cNone (s.slot to.toNat).cap = true ∧ (s.slot fr.toNat).cap.ty ≠ 1 ∧ cLess c (s.slot fr.toNat).cap = true ∧ (c.ty = 2 → ¬ Reach s c.th (sOwner s to)) := by
 simp only [putE] at he
 cases h1 : sGood s with
 | false => simp [h1] at he
 | true =>
 simp only [h1, Bool.not_true, cond_false] at he
 cases h2 : (decide (fr < 0) || (decide ((s.slots.length : Int) ≤ fr) || (decide (to < 0) || (decide ((s.slots.length : Int) ≤ to) || (!cGood c || cNone c))))) with
 | true => simp [h2] at he
 | false =>
 simp only [h2, cond_false] at he
 simp at h2
 have ho : sOwnerX s to = sOwner s to := by
  simp only [sOwnerX, h1, Bool.true_and]
  rw [decide_eq_true (by omega), decide_eq_true (by omega)]; rfl
 rw [ho] at he
 cases h3 : decide (sOwner s to < 0) with
 | true => simp [h3] at he
 | false =>
 simp only [h3, cond_false] at he
 cases h4 : cNone (s.slot fr.toNat).cap with
 | true => simp [h4] at he
 | false =>
 simp only [h4, cond_false] at he
 cases h5 : cNone (s.slot to.toNat).cap with
 | false => simp [h5] at he
 | true =>
 simp only [h5, Bool.not_true, cond_false] at he
 cases h6 : decide ((s.slot fr.toNat).cap.ty = 1) with
 | true => simp [h6] at he
 | false =>
 simp only [h6, cond_false] at he
 cases h7 : cLess c (s.slot fr.toNat).cap with
 | false => simp [h7] at he
 | true =>
 simp only [h7, Bool.not_true, cond_false] at he
 cases h8 : ringM s c to with
 | true => simp [h8] at he
 | false =>
 have inv := inv_iff.1 h1
 simp only [decide_eq_false_iff_not] at h3 h6
 refine ⟨inv, by omega, by omega, by omega, by omega, h2.2.2.2.2.1, h2.2.2.2.2.2, by omega, h4, rfl, h6, rfl, fun h9 hr => ?_⟩
 obtain ⟨e1, e2⟩ := cLess_eq h7 h2.2.2.2.2.2
 have ht := inv.capT fr.toNat (by omega) h4
 have : sInsideX s c.th to = true := by
  simp only [sInsideX, h1, Bool.true_and, Bool.and_eq_true, decide_eq_true_eq]
  refine ⟨by omega, by omega, sInside_iff.2 ⟨?_, ?_, hr⟩⟩
  ·rw [e2]; exact ht.1
  ·rw [e2, ht.2, ← e1]; exact h9
 simp [ringM, h9, this] at h8
theorem putS_inv {s : State} {fr to : Int} {c : Cap} (he : putE s fr to c = 0) : Inv (putS s fr to c) := by
 obtain ⟨h, f0, f1, t0, t1, hc, hn, ho, hfn, hte, hty, hl, hr⟩ := putE_zero he
 have ef : ((fr.toNat : Nat) : Int) = fr := by omega
 have et : ((to.toNat : Nat) : Int) = to := by omega
 obtain ⟨e1, e2⟩ := cLess_eq hl hn
 have ht := h.capT fr.toNat (by omega) hfn
 refine h.put (fr := fr.toNat) (to := to.toNat) (c := c) (by omega) (by omega) rfl rfl (by simp [putS]) (fun k => ?_) hc hn ?_ hfn hte ⟨by rw [e2]; exact ht.1, by rw [e2, ht.2, e1]⟩ (.inl hl) (by rw [et]; exact hr)
 ·rw [ef]; exact slot_set (by omega)
 ·obtain ⟨n, a, b, _⟩ := owner_has (s := s) (i := to) (by omega)
  exact ⟨n, a, by rw [et]; exact b⟩
theorem Inv.thing {s u : State} (h : Inv s) {b : Nat} {T : Thing} (hb : b < s.things.length) (hg : u.geo = s.geo) (hS : u.slots = s.slots) (hT : u.things.length = s.things.length) (hth : ∀ k, u.thing k = if k = b then T else s.thing k)
 (h2 : (s.thing b).ty ≠ 2) (hty : T.ty = (s.thing b).ty) (hgd : M.tGood T = true) (hf : 0 < T.from_ → T.from_ ≤ s.slots.length ∧ s.non (T.from_ - 1).toNat) : Inv u := by
 have hsl : ∀ k, u.slot k = s.slot k := fun k => by simp only [State.slot, hS]
 have htb : u.thing b = T := by rw [hth, if_pos rfl]
 have hel : ∀ k, k ≠ b → u.thing k = s.thing k := fun k hk => by rw [hth, if_neg hk]
 have hty' : ∀ k, (u.thing k).ty = (s.thing k).ty := fun k => by
  by_cases e : k = b
  ·subst e; rw [htb, hty]
  ·rw [hel k e]
 have hthere : ∀ t, sThere u t = sThere s t := fun t => by simp only [sThere, hty', hT]
 have hnon : ∀ k, u.non k = s.non k := fun k => by simp only [State.non, hsl]
 have hhas : ∀ k i, tHas (u.thing k) i = tHas (s.thing k) i := fun k i => by
  by_cases e : k = b
  ·subst e; simp only [tHas, htb, hty, h2, decide_false, Bool.false_and]
  ·rw [hel k e]
 have hnr : rootB s b = false := by
  cases hr : rootB s b with
  | false => rfl
  | true => have := h.root b hb hr; rw [this] at h2; simp [rootT] at h2
 have hS' : u.slots.length = s.slots.length := by rw [hS]
 refine ⟨by rw [hg]; exact h.geo, by rw [hS, hg]; exact h.lenS, by rw [hT, hg]; exact h.lenT, fun i hi => by rw [hsl]; exact h.capG i (hS' ▸ hi), fun i hi hin => by rw [hsl] at hin ⊢; exact h.upN i (hS' ▸ hi) hin,
  fun i hi hin => by rw [hthere, hsl, hty']; exact h.capT i (hS' ▸ hi) (by rw [← hnon]; exact hin), fun k hk => ?_, fun k hk h0 => ?_, fun k hk hrb => ?_, fun k hk hrb hk0 => ?_, fun k hk => ?_,
  fun n hn m hm i => by rw [hhas, hhas]; exact h.apart n (hT ▸ hn) m hm i, fun i hi hin => ?_, ?_, fun i hi hin => ?_, ?_, fun i hi hin h0 => ?_⟩
 ·by_cases e : k = b
  ·subst e; rw [htb]; exact hgd
  ·rw [hel k e]; exact h.tGood k (hT ▸ hk)
 ·simp only [hnon, hS']
  by_cases e : k = b
  ·subst e; rw [htb] at h0 ⊢; exact hf h0
  ·rw [hel k e] at h0 ⊢; exact h.from_ k (hT ▸ hk) h0
 ·have hrb' : rootB s k = true := by simpa only [rootB, hg] using hrb
  by_cases e : k = b
  ·subst e; rw [hnr] at hrb'; cases hrb'
  ·rw [hel k e, hg]; exact h.root k (hT ▸ hk) hrb'
 ·rw [hty'] at hk0
  obtain ⟨i, a, b', c⟩ := h.held k (hT ▸ hk) (by simpa only [rootB, hg] using hrb) hk0
  exact ⟨i, hS' ▸ a, by rw [hnon]; exact b', by rw [hsl]; exact c⟩
 ·intro hk2
  rw [hty'] at hk2
  have e : k ≠ b := by rintro rfl; exact h2 hk2
  rw [hel k e, hS']; exact h.fit k (hT ▸ hk) hk2
 ·obtain ⟨n, a, b'⟩ := h.has i (hS' ▸ hi) (by rw [← hnon]; exact hin)
  exact ⟨n, hT ▸ a, by rw [hhas]; exact b'⟩
 ·refine ring_sub h.ring hT fun n m e => ?_
  obtain ⟨n0, i, hi, a, b', d, rfl⟩ := e
  rw [hhas] at b'
  rw [hsl] at a d ⊢
  rw [hthere] at d
  exact ⟨n0, i, hS' ▸ hi, a, b', d, rfl⟩
 ·rw [hsl, hS', hnon]; exact h.up i (hS' ▸ hi) (by rw [← hnon]; exact hin)
 ·obtain ⟨r, hr⟩ := h.rank
  exact ⟨r, fun i hi hin h0 => by rw [hsl] at h0 ⊢; exact hr i (hS' ▸ hi) (by rw [← hnon]; exact hin) h0⟩
 ·rw [hsl] at h0 ⊢; rw [hsl]; exact h.allow i (hS' ▸ hi) (by rw [← hnon]; exact hin) h0
theorem boxed_thing' {s : State} {b : Int} {T : Thing} {k : Nat} (hb : b.toNat < s.things.length) : (boxed s b T).thing k = if k = b.toNat then T else s.thing k := thing_set hb
theorem boxed_inv {s : State} {b : Int} {T : Thing} (h : Inv s) (hb : b.toNat < s.things.length) (h2 : (s.thing b.toNat).ty ≠ 2) (hty : T.ty = (s.thing b.toNat).ty) (hgd : M.tGood T = true) (hf : 0 < T.from_ → T.from_ ≤ s.slots.length ∧ s.non (T.from_ - 1).toNat) : Inv (boxed s b T) :=
 h.thing hb rfl rfl (by simp [boxed]) (fun _ => boxed_thing' hb) h2 hty hgd hf
end Go.Ax.M
namespace Go.Ax.M
open Go Go.Ax
structure Like (s u : State) : Prop where
 geo : u.geo = s.geo
 slots : u.slots = s.slots
 len : u.things.length = s.things.length
 thing : ∀ k, u.thing k = s.thing k ∨ ((u.thing k).ty = (s.thing k).ty ∧ (s.thing k).ty ≠ 2)
theorem Like.ty {s u : State} (h : Like s u) (k : Nat) : (u.thing k).ty = (s.thing k).ty := by
 rcases h.thing k with e | ⟨e, f⟩
 ·rw [e]
 ·rw [e]
theorem Like.slot {s u : State} (h : Like s u) (k : Nat) : u.slot k = s.slot k := by simp only [State.slot, h.slots]
theorem Like.node {s u : State} (h : Like s u) {k : Nat} (hk : (s.thing k).ty = 2) : u.thing k = s.thing k := by
 rcases h.thing k with e | ⟨e, f⟩
 ·exact e
 ·exact absurd hk f
theorem Like.owner {s u : State} (h : Like s u) (n : Int) : sOwner u n = sOwner s n := by
 have : ∀ k, tHas (u.thing k) n = tHas (s.thing k) n := fun k => by
  rcases h.thing k with e | ⟨e, f⟩
  ·rw [e]
  ·simp [tHas, e, f]
 simp only [sOwner, h.len, this]
theorem boxed_like {s : State} {b : Int} {T : Thing} (hb : b.toNat < s.things.length) (h2 : (s.thing b.toNat).ty ≠ 2) (hty : T.ty = (s.thing b.toNat).ty) : Like s (boxed s b T) := by
 refine ⟨rfl, rfl, by simp [boxed], fun k => ?_⟩
 rw [boxed_thing' hb]
 by_cases h : k = b.toNat
 ·subst h; simp only [if_true]; exact .inr ⟨hty, h2⟩
 ·simp only [if_neg h]; exact .inl trivial
theorem Like.step {s u : State} (h : Like s u) {k : Nat} (hk : (s.thing k).ty = 2) (n : Int) : stepI (u.thing k) n = stepI (s.thing k) n := by rw [h.node hk]
theorem Like.through {s u : State} (h : Like s u) (i : Int) : throughB u i = throughB s i := by simp only [throughB, h.slot]
theorem Like.walk {s u : State} (h : Like s u) (ok : StOk s) : ∀ (p : List Int) (i : Int), (∀ n ∈ p, 0 ≤ n) → 0 ≤ i → i < s.slots.length → fWalk u p i = fWalk s p i
 | [], _, _, _, _ => rfl
 | n :: r, i, hp, h0, h1 => by
  rw [fWalk, fWalk, h.through, h.slot]
  cases hb : throughB s i with
  | false => rfl
  | true =>
   obtain ⟨q1, q2⟩ := through_node ok h0 h1 hb
   rw [h.step q2]
   cases hd : decide (stepI (s.thing (s.slot i.toNat).cap.th.toNat) n < 0) with
   | true => rfl
   | false =>
    have := (stepI_lt ok q1 q2 (n := n) (hp n List.mem_cons_self)).resolve_left (by simpa using hd)
    simp only [Bool.not_false, Bool.and_self, cond_true]
    exact Like.walk h ok r _ (fun m hm => hp m (List.mem_cons_of_mem _ hm)) this.1 this.2
theorem pGood_pos {p : List Int} (h : pGood p = true) : ∀ n ∈ p, 0 ≤ n := by
 intro n hn
 obtain ⟨k, hk, rfl⟩ := List.mem_iff_getElem.1 hn
 have := (pGood_get h hk).1
 simpa [List.getD, hk] using this
theorem mailM_some {s : State} {th : Int} {c : Call} {x : State} (h : (mailM s th c).st = some x) : callGood c = true ∧ (fCap s th c.a).2.2 = 0 ∧ (fCap s th c.a).2.1.ty = 3 ∧
 ((c.op = 7 ∧ rWithin 2 (fCap s th c.a).2.1.ri = true ∧ mailM s th c = sendM s th c (fCap s th c.a).2.1) ∨ (c.op = 8 ∧ rWithin 1 (fCap s th c.a).2.1.ri = true ∧ mailM s th c = recvM s th c (fCap s th c.a).2.1)) := by
 simp only [mailM] at h ⊢
 cases h1 : (!callGood c || (!decide (c.op = 7) && !decide (c.op = 8))) with
 | true => simp [h1, Res.bad] at h
 | false =>
 simp only [h1, cond_false] at h ⊢
 cases h2 : decide ((fCap s th c.a).2.2 = 0) with
 | false => simp [h2, Res.bad] at h
 | true =>
 simp only [h2, Bool.not_true, cond_false] at h ⊢
 cases h3 : decide ((fCap s th c.a).2.1.ty = 3) with
 | false => simp [h3, Res.bad] at h
 | true =>
 simp only [h3, Bool.not_true, cond_false] at h ⊢
 cases h4 : rWithin (bif decide (c.op = 8) then 1 else 2) (fCap s th c.a).2.1.ri with
 | false => simp [h4, Res.bad] at h
 | true =>
 simp only [h4, Bool.not_true, cond_false] at h ⊢
 simp at h1 h2 h3
 refine ⟨h1.1, h2, h3, ?_⟩
 by_cases h7 : c.op = 7
 ·left; simp only [h7] at h4 ⊢; exact ⟨trivial, by simpa using h4, by simp⟩
 ·right
  have h8 : c.op = 8 := h1.2 h7
  simp only [h8] at h4 ⊢; exact ⟨trivial, by simpa using h4, by simp⟩
theorem sendM_some {s : State} {th : Int} {c : Call} {box : Cap} {x : State} (h : (sendM s th c box).st = some x) : (s.thing box.th.toNat).full = false ∧ ∃ fr, x = boxed s box.th (mailT fr box.ba c.w) ∧ sendM s th c box = ⟨0, 0, 0, some x⟩ ∧
 ((c.b = [] ∧ fr = 0) ∨ (c.b ≠ [] ∧ rWithin 4 box.ri = true ∧ (fCap s th c.b).2.2 = 0 ∧ (fCap s th c.b).2.1.ty ≠ 1 ∧ fr = (fCap s th c.b).1 + 1)) := by
 have key : ∀ fr, (sendIn s c box fr).st = some x → (s.thing box.th.toNat).full = false ∧ x = boxed s box.th (mailT fr box.ba c.w) ∧ sendIn s c box fr = ⟨0, 0, 0, some x⟩ := by
  intro fr h
  simp only [sendIn] at h ⊢
  cases h1 : (s.thing box.th.toNat).full with
  | true => simp [h1, Res.bad] at h
  | false => simp [h1] at h ⊢; subst h; simp
 simp only [sendM] at h ⊢
 cases hb : decide (0 < (c.b.length : Int)) with
 | false =>
  simp only [hb, cond_false] at h ⊢
  obtain ⟨a, b, d⟩ := key 0 h
  refine ⟨a, 0, b, d, .inl ⟨?_, rfl⟩⟩
  simp at hb; exact hb
 | true =>
  simp only [hb, cond_true] at h ⊢
  cases h1 : rWithin 4 box.ri with
  | false => simp [h1, Res.bad] at h
  | true =>
  simp only [h1, Bool.not_true, cond_false] at h ⊢
  cases h2 : decide ((fCap s th c.b).2.2 = 0) with
  | false => simp [h2, Res.bad] at h
  | true =>
  simp only [h2, Bool.not_true, cond_false] at h ⊢
  cases h3 : decide ((fCap s th c.b).2.1.ty = 1) with
  | true => simp [h3, Res.bad] at h
  | false =>
  simp only [h3, cond_false] at h ⊢
  obtain ⟨a, b, d⟩ := key _ h
  simp at hb h2 h3
  exact ⟨a, _, b, d, .inr ⟨by intro e; simp [e] at hb, trivial, h2, h3, rfl⟩⟩
theorem recvM_some {s : State} {th : Int} {c : Call} {box : Cap} {x : State} (h : (recvM s th c box).st = some x) : (s.thing box.th.toNat).full = true ∧
 ((recvM s th c box = recvIn s s box ∧ ¬ (0 < (c.b.length : Int) ∧ 0 < (s.thing box.th.toNat).from_)) ∨
  (0 < (s.thing box.th.toNat).from_ ∧ (fEmpty s th c.b).2 = 0 ∧ putE s ((s.thing box.th.toNat).from_ - 1) (fEmpty s th c.b).1 (s.slot ((s.thing box.th.toNat).from_ - 1).toNat).cap = 0 ∧
   recvM s th c box = recvIn s (putS s ((s.thing box.th.toNat).from_ - 1) (fEmpty s th c.b).1 (s.slot ((s.thing box.th.toNat).from_ - 1).toNat).cap) box)) := by
 simp only [recvM] at h ⊢
 cases h1 : (s.thing box.th.toNat).full with
 | false => simp [h1, Res.bad] at h
 | true =>
 simp only [h1, Bool.not_true, cond_false] at h ⊢
 refine ⟨trivial, ?_⟩
 cases h2 : (decide (0 < (c.b.length : Int)) && decide (0 < (s.thing box.th.toNat).from_)) with
 | false => left; simp only [cond_false]; refine ⟨trivial, ?_⟩; simpa using h2
 | true =>
 simp only [h2, cond_true] at h ⊢
 cases h3 : decide ((fEmpty s th c.b).2 = 0) with
 | false => simp [h3, Res.bad] at h
 | true =>
 simp only [h3, Bool.not_true, cond_false] at h ⊢
 cases h4 : decide (putE s ((s.thing box.th.toNat).from_ - 1) (fEmpty s th c.b).1 (s.slot ((s.thing box.th.toNat).from_ - 1).toNat).cap = 0) with
 | false => rw [h4] at h; exact nomatch (show (none : Option State) = some x from h)
 | true =>
 right
 simp only [Bool.and_eq_true, decide_eq_true_eq] at h2 h3 h4
 exact ⟨h2.2, h3, h4, rfl⟩
theorem mailT_good {fr ba w : Int} (h1 : 0 ≤ fr) (h2 : fr ≤ 96) (h3 : 0 ≤ ba) (h4 : ba ≤ 65535) : tGood (mailT fr ba w) = true := by
 simp [tGood, mailT, tOwn, tEq, Thing.zero, inB, h1, h2, h3, h4]
theorem mail0_good : tGood mail0 = true := by simp [tGood, mail0, tOwn, tEq, Thing.zero, inB]
theorem fCap_box {s : State} {th : Int} {p : List Int} (h : (fCap s th p).2.2 = 0) : (fCap s th p).2.1.th.toNat < s.things.length ∧ (s.thing (fCap s th p).2.1.th.toNat).ty = (fCap s th p).2.1.ty ∧ Inv s ∧ cGood (fCap s th p).2.1 = true := by
 obtain ⟨h0, h1, ok, e, hn⟩ := fCap_lt h
 have inv := Inv.of ok
 have hn' : s.non (fCap s th p).1.toNat := by simp only [State.non]; rw [← e]; exact hn
 have := inv.capT _ (by omega) hn'
 rw [there_iff] at this
 rw [e]
 exact ⟨by omega, this.2, inv, inv.capG _ (by omega)⟩
theorem cGood_ba {c : Cap} (h : cGood c = true) : 0 ≤ c.ba ∧ c.ba ≤ 65535 := by
 cases hn : cNone c with
 | true => rw [none_cap hn]; simp [Cap.zero]
 | false => simp [cGood, hn, rBadge, inB] at h; omega
theorem send_like {s : State} {th : Int} {c : Call} {x : State} (h : (mailM s th c).st = some x) (h7 : c.op = 7) : Inv s ∧ Inv x ∧ Like s x ∧ mailM s th c = ⟨0, 0, 0, some x⟩ ∧ callGood c = true ∧ (fCap s th c.a).2.2 = 0 ∧ (fCap s th c.a).2.1.ty = 3 ∧
 rWithin 2 (fCap s th c.a).2.1.ri = true ∧ (s.thing (fCap s th c.a).2.1.th.toNat).full = false ∧ ∃ fr, x = boxed s (fCap s th c.a).2.1.th (mailT fr (fCap s th c.a).2.1.ba c.w) ∧ (c.b = [] → fr = 0) := by
 obtain ⟨g1, g2, g3, g4⟩ := mailM_some h
 rcases g4 with ⟨-, g5, g6⟩ | ⟨g5, -⟩
 ·rw [g6] at h
  obtain ⟨k1, fr, k2, k3, k4⟩ := sendM_some h
  obtain ⟨b1, b2, inv, b3⟩ := fCap_box g2
  have hb := cGood_ba b3
  have hS := inv.ok.lS
  have hfr : 0 ≤ fr ∧ fr ≤ 96 ∧ (0 < fr → fr ≤ s.slots.length ∧ s.non (fr - 1).toNat) := by
   rcases k4 with ⟨_, rfl⟩ | ⟨_, _, e1, _, rfl⟩
   ·exact ⟨by omega, by omega, fun h => by omega⟩
   ·obtain ⟨q0, q1, _, q2, q3⟩ := fCap_lt e1
    refine ⟨by omega, by omega, fun _ => ⟨by omega, ?_⟩⟩
    simp only [State.non]
    rw [show (fCap s th c.b).1 + 1 - 1 = (fCap s th c.b).1 by omega, ← q2]; exact q3
  have ht : (mailT fr (fCap s th c.a).2.1.ba c.w).ty = (s.thing (fCap s th c.a).2.1.th.toNat).ty := by rw [b2, g3]; rfl
  have h2 : (s.thing (fCap s th c.a).2.1.th.toNat).ty ≠ 2 := by rw [b2, g3]; decide
  refine ⟨inv, ?_, ?_, by rw [g6]; exact k3, g1, g2, g3, g5, k1, fr, k2, fun hb => ?_⟩
  ·rw [k2]
   exact boxed_inv inv b1 h2 ht (mailT_good hfr.1 hfr.2.1 hb.1 hb.2) hfr.2.2
  ·rw [k2]; exact boxed_like b1 h2 ht
  ·rcases k4 with ⟨_, rfl⟩ | ⟨h', _⟩
   ·rfl
   ·exact absurd hb h'
 ·omega
end Go.Ax.M
namespace Go.Ax.M
open Go Go.Ax
theorem step_has {s : State} (h : Inv s) {k : Nat} (hk : k < s.things.length) (h2 : (s.thing k).ty = 2) {n : Int} (hn : 0 ≤ n) (h0 : ¬ stepI (s.thing k) n < 0) : tHas (s.thing k) (stepI (s.thing k) n) = true := by
 have hb := tGood_node (h.tGood k hk) h2
 simp only [stepI] at h0 ⊢
 cases hd : decide (p2 (s.thing k).bits ≤ n) with
 | true => simp [hd] at h0
 | false =>
  simp only [cond_false]
  simp at hd
  exact tHas_iff.2 ⟨h2, by omega, by omega⟩
theorem fWalk_has {s : State} (h : Inv s) : ∀ (p : List Int) (i : Int), (∀ n ∈ p, 0 ≤ n) → 0 ≤ i → i < s.slots.length → (∃ k, k < s.things.length ∧ tHas (s.thing k) i = true) → (fWalk s p i).2 = 0 → ∃ k, k < s.things.length ∧ tHas (s.thing k) (fWalk s p i).1 = true
 | [], i, _, _, _, hh, _ => hh
 | n :: r, i, hp, h0, h1, hh, he => by
  rw [fWalk] at he ⊢
  cases hc : (throughB s i && !decide (stepI (s.thing (s.slot i.toNat).cap.th.toNat) n < 0)) with
  | false => rw [hc] at he; simp at he
  | true =>
   rw [hc] at he
   simp only [cond_true] at he ⊢
   simp only [Bool.and_eq_true, Bool.not_eq_true', decide_eq_false_iff_not] at hc
   obtain ⟨q1, q2⟩ := through_node h.ok h0 h1 hc.1
   have h3 := (stepI_lt h.ok q1 q2 (n := n) (hp n List.mem_cons_self)).resolve_left hc.2
   exact fWalk_has h r _ (fun m hm => hp m (List.mem_cons_of_mem _ hm)) h3.1 h3.2 ⟨_, q1, step_has h q1 q2 (hp n List.mem_cons_self) hc.2⟩ he
theorem fSlot_has {s : State} {th : Int} {p : List Int} (he : (fSlot s th p).2 = 0) : ∃ k, k < s.things.length ∧ tHas (s.thing k) (fSlot s th p).1 = true := by
 obtain ⟨ok, hi, hp, h0, h1⟩ := fSlot_ok he
 have h := Inv.of ok
 simp only [fSlot, ok.good, hi, hp, Bool.and_self, cond_true] at he ⊢
 rw [inB_iff] at hi
 have hpn := pGood_pos hp
 obtain ⟨q1, q2⟩ := root_node ok hi.1 hi.2
 cases p with
 | nil => simp [pGood] at hp
 | cons n r =>
  simp only [fFirst] at he ⊢
  cases hd : decide (stepI (s.thing (2 + th).toNat) n < 0) with
  | true => rw [hd] at he; simp at he
  | false =>
   rw [hd] at he
   simp only [Bool.not_false, cond_true] at he ⊢
   simp only [decide_eq_false_iff_not] at hd
   have h3 := (stepI_lt ok q1 q2 (n := n) (hpn n List.mem_cons_self)).resolve_left hd
   exact fWalk_has h r _ (fun m hm => hpn m (List.mem_cons_of_mem _ hm)) h3.1 h3.2 ⟨_, q1, step_has h q1 q2 (hpn n List.mem_cons_self) hd⟩ he
theorem fEmpty_ok {s : State} {th : Int} {p : List Int} (he : (fEmpty s th p).2 = 0) : Inv s ∧ 0 ≤ (fEmpty s th p).1 ∧ (fEmpty s th p).1 < s.slots.length ∧ cNone (s.slot (fEmpty s th p).1.toNat).cap = true ∧ (∃ k, k < s.things.length ∧ tHas (s.thing k) (fEmpty s th p).1 = true) ∧ fSlot s th p = ((fEmpty s th p).1, 0) := by
 simp only [fEmpty] at he ⊢
 cases h1 : decide ((fSlot s th p).2 = 0) with
 | false => rw [h1] at he; simp at he h1; exact absurd he h1
 | true =>
  rw [h1] at he
  simp only [Bool.not_true, cond_false] at he ⊢
  simp at h1
  cases h2 : cNone (s.slot (fSlot s th p).1.toNat).cap with
  | false => rw [h2] at he; simp at he
  | true =>
   simp only [Bool.not_true, cond_false]
   obtain ⟨ok, _, _, h3, h4⟩ := fSlot_ok h1
   exact ⟨.of ok, h3, h4, h2, fSlot_has h1, Prod.ext rfl h1⟩
theorem fCap_ok {s : State} {th : Int} {p : List Int} (h : (fCap s th p).2.2 = 0) : Inv s ∧ 0 ≤ (fCap s th p).1 ∧ (fCap s th p).1 < s.slots.length ∧ (fCap s th p).2.1 = (s.slot (fCap s th p).1.toNat).cap ∧ s.non (fCap s th p).1.toNat ∧ fSlot s th p = ((fCap s th p).1, 0) := by
 obtain ⟨h0, h1, ok, e, hn⟩ := fCap_lt h
 refine ⟨.of ok, h0, h1, e, by simp only [State.non]; rw [← e]; exact hn, ?_⟩
 simp only [fCap] at h ⊢
 cases h1 : decide ((fSlot s th p).2 = 0) with
 | false => rw [h1] at h; simp at h h1; exact absurd h h1
 | true =>
  rw [h1] at h
  simp only [Bool.not_true, cond_false] at h ⊢
  simp at h1
  cases h2 : cNone (s.slot (fSlot s th p).1.toNat).cap with
  | true => rw [h2] at h; simp at h
  | false => exact Prod.ext rfl h1
theorem recv_inv {s : State} {th : Int} {c : Call} {y : State} (h : (mailM s th c).st = some y) (h8 : c.op = 8) : Inv y ∧ (mailM s th c).err = 0 ∧ y.slots.length = s.slots.length ∧ y.geo = s.geo ∧ y.things.length = s.things.length ∧
 ∃ t : Nat, (∀ i, i ≠ t → y.slot i = s.slot i) ∧ (y.slot t ≠ s.slot t → 0 ≤ (y.slot t).up ∧ (y.slot t).up < s.slots.length ∧ (y.slot t).cap = (s.slot (y.slot t).up.toNat).cap) := by
 obtain ⟨g1, g2, g3, g4⟩ := mailM_some h
 rcases g4 with ⟨g5, -⟩ | ⟨-, g5, g6⟩
 ·omega
 ·rw [g6] at h
  obtain ⟨b1, b2, inv, b3⟩ := fCap_box g2
  have h2 : (s.thing (fCap s th c.a).2.1.th.toNat).ty ≠ 2 := by rw [b2, g3]; decide
  have ht : mail0.ty = (s.thing (fCap s th c.a).2.1.th.toNat).ty := by rw [b2, g3]; rfl
  obtain ⟨k1, k2⟩ := recvM_some h
  rcases k2 with ⟨k2, -⟩ | ⟨k2, k3, k4, k5⟩
  ·rw [g6, k2]
   rw [k2] at h
   simp only [recvIn, Option.some.injEq] at h ⊢
   subst h
   refine ⟨boxed_inv inv b1 h2 ht mail0_good (fun h => by simp [mail0] at h), trivial, rfl, rfl, by simp [boxed], 0, fun i _ => rfl, fun h => absurd rfl h⟩
  ·rw [g6, k5]
   rw [k5] at h
   simp only [recvIn, Option.some.injEq] at h ⊢
   subst h
   obtain ⟨_, f0, f1, t0, t1, _⟩ := putE_zero k4
   have inv' := putS_inv k4
   refine ⟨boxed_inv inv' b1 h2 ht mail0_good (fun h => by simp [mail0] at h), trivial, by simp [boxed, putS], rfl, by simp [boxed, putS], (fEmpty s th c.b).1.toNat, fun i hi => ?_, fun _ => ?_⟩
   ·have := slot_set (s := s) (i := (fEmpty s th c.b).1.toNat) (k := i) (x := ⟨(s.slot ((s.thing (fCap s th c.a).2.1.th.toNat).from_ - 1).toNat).cap, (s.thing (fCap s th c.a).2.1.th.toNat).from_ - 1⟩) (by omega)
    rw [if_neg hi] at this; exact this
   ·have := slot_set (s := s) (i := (fEmpty s th c.b).1.toNat) (k := (fEmpty s th c.b).1.toNat) (x := ⟨(s.slot ((s.thing (fCap s th c.a).2.1.th.toNat).from_ - 1).toNat).cap, (s.thing (fCap s th c.a).2.1.th.toNat).from_ - 1⟩) (by omega)
    rw [if_pos rfl] at this
    have e : (boxed (putS s ((s.thing (fCap s th c.a).2.1.th.toNat).from_ - 1) (fEmpty s th c.b).1 (s.slot ((s.thing (fCap s th c.a).2.1.th.toNat).from_ - 1).toNat).cap) (fCap s th c.a).2.1.th mail0).slot (fEmpty s th c.b).1.toNat = ⟨(s.slot ((s.thing (fCap s th c.a).2.1.th.toNat).from_ - 1).toNat).cap, (s.thing (fCap s th c.a).2.1.th.toNat).from_ - 1⟩ := this
    rw [e]
    exact ⟨f0, f1, rfl⟩
theorem giveM_some {s : State} {th : Int} {c : Call} {y : State} (h : (giveM s th c).st = some y) : callGood c = true ∧ (fCap s th c.a).2.2 = 0 ∧ (fEmpty s th c.b).2 = 0 ∧ giveM s th c = ⟨0, 0, 0, some y⟩ ∧
 ((c.op = 4 ∧ ringM s (fCap s th c.a).2.1 (fEmpty s th c.b).1 = false ∧ y = movedS s (fCap s th c.a).1 (fEmpty s th c.b).1) ∨
  ((c.op = 2 ∨ c.op = 3) ∧ ∃ x : Cap, putE s (fCap s th c.a).1 (fEmpty s th c.b).1 x = 0 ∧ y = putS s (fCap s th c.a).1 (fEmpty s th c.b).1 x ∧ x.ri = (cCut (fCap s th c.a).2.1 c.x).ri ∧ (c.op = 2 → x = cCut (fCap s th c.a).2.1 c.x) ∧ (c.op = 3 → cStamp (cCut (fCap s th c.a).2.1 c.x) c.y = (x, 0)))) := by
 simp only [giveM] at h ⊢
 cases h1 : (!callGood c || (!decide (c.op = 2) && (!decide (c.op = 3) && !decide (c.op = 4)))) with
 | true => simp [h1, Res.bad] at h
 | false =>
 simp only [h1, cond_false] at h ⊢
 cases h2 : decide ((fCap s th c.a).2.2 = 0) with
 | false => simp [h2, Res.bad] at h
 | true =>
 simp only [h2, Bool.not_true, cond_false] at h ⊢
 cases h3 : (decide (c.op = 3) && !decide ((cStamp (giveX c (fCap s th c.a).2.1) c.y).2 = 0)) with
 | true => simp [h3, Res.bad] at h
 | false =>
 simp only [h3, cond_false] at h ⊢
 cases h4 : decide ((fEmpty s th c.b).2 = 0) with
 | false => simp [h4, Res.bad] at h
 | true =>
 simp only [h4, Bool.not_true, cond_false] at h ⊢
 simp at h1 h2 h4
 refine ⟨h1.1, h2, h4, ?_⟩
 by_cases h5 : c.op = 4
 ·simp only [giveIn, giveX, h5, decide_true, Bool.not_true, cond_false] at h ⊢
  simp only [show decide ((4 : Int) = 3) = false from rfl, cond_false] at h ⊢
  cases h6 : ringM s (fCap s th c.a).2.1 (fEmpty s th c.b).1 with
  | true => simp [h6, Res.bad] at h
  | false =>
   simp only [h6, cond_false, Option.some.injEq] at h ⊢
   exact ⟨by rw [h], .inl ⟨trivial, trivial, h.symm⟩⟩
 ·have h45 : decide (c.op = 4) = false := by simpa using h5
  simp only [giveIn, giveX, h45, Bool.not_false, cond_true] at h h3 ⊢
  by_cases h7 : c.op = 3
  ·simp only [h7, decide_true, Bool.true_and, cond_true] at h h3 ⊢
   simp at h3
   cases h8 : decide (putE s (fCap s th c.a).1 (fEmpty s th c.b).1 (cStamp (cCut (fCap s th c.a).2.1 c.x) c.y).1 = 0) with
   | false => simp [h8, Res.bad] at h
   | true =>
    simp only [h8, cond_true, Option.some.injEq] at h ⊢
    simp at h8
    refine ⟨by rw [h], .inr ⟨.inr trivial, _, h8, h.symm, ?_, fun h => by omega, fun _ => Prod.ext rfl h3⟩⟩
    have h3' := h3
    simp only [cStamp] at h3 ⊢
    cases e1 : (!cGood (cCut (fCap s th c.a).2.1 c.x) || (!rBadge c.y || decide (c.y = 0))) with
    | true => simp [e1] at h3
    | false =>
    simp only [e1, cond_false] at h3 ⊢
    cases e2 : cBadged (cCut (fCap s th c.a).2.1 c.x).ty with
    | false => simp [e2] at h3
    | true =>
    simp only [e2, Bool.not_true, cond_false] at h3 ⊢
    cases e3 : decide ((cCut (fCap s th c.a).2.1 c.x).ba ≠ 0) with
    | true => simp [e3] at h3
    | false => rfl
  ·have h2' : c.op = 2 := by omega
   simp only [h2', show decide ((2 : Int) = 3) = false from rfl, cond_false] at h ⊢
   cases h8 : decide (putE s (fCap s th c.a).1 (fEmpty s th c.b).1 (cCut (fCap s th c.a).2.1 c.x) = 0) with
   | false => simp [h8, Res.bad] at h
   | true =>
    simp only [h8, cond_true, Option.some.injEq] at h ⊢
    simp at h8
    exact ⟨by rw [h], .inr ⟨.inl trivial, _, h8, h.symm, rfl, fun _ => rfl, fun h => by omega⟩⟩
theorem mvThing_ty {fr to : Int} {t : Thing} : (mvThing fr to t).ty = t.ty := by simp only [mvThing]; cases decide (t.from_ = fr + 1) <;> rfl
theorem mvThing_has {fr to i : Int} {t : Thing} : tHas (mvThing fr to t) i = tHas t i := by simp only [mvThing, tHas]; cases decide (t.from_ = fr + 1) <;> rfl
theorem mvThing_fit {fr to : Int} {t : Thing} : (mvThing fr to t).base = t.base ∧ (mvThing fr to t).bits = t.bits := by simp only [mvThing]; cases decide (t.from_ = fr + 1) <;> exact ⟨rfl, rfl⟩
theorem mvThing_good {fr to : Int} {t : Thing} (h : tGood t = true) (h0 : 0 ≤ fr) (h1 : 0 ≤ to) (h2 : to < 96) : tGood (mvThing fr to t) = true := by
 simp only [mvThing]
 cases hd : decide (t.from_ = fr + 1) with
 | false => exact h
 | true =>
  simp only [cond_true]
  simp at hd
  have ho : tOwn t = t := by simp [tGood] at h; exact tEq_iff.1 h.1
  have h3 : t.ty = 3 ∧ t.full = true := by
   by_cases a1 : t.ty = 1
   ·rw [← ho] at hd; simp [tOwn, a1, Thing.zero] at hd; omega
   by_cases a2 : t.ty = 2
   ·rw [← ho] at hd; simp [tOwn, a2, Thing.zero] at hd; omega
   by_cases a3 : t.ty = 3
   ·refine ⟨a3, ?_⟩
    cases hf : t.full with
    | true => rfl
    | false => rw [← ho] at hd; simp [tOwn, a3, hf, Thing.zero] at hd; omega
   by_cases a4 : t.ty = 4
   ·rw [← ho] at hd; simp [tOwn, a4, Thing.zero] at hd; omega
   by_cases a5 : t.ty = 5
   ·rw [← ho] at hd; simp [tOwn, a5, Thing.zero] at hd; omega
   rw [← ho] at hd; simp [tOwn, a1, a2, a3, a4, a5, Thing.zero] at hd; omega
  have hb : inB t.badge 0 65535 = true := by simp [tGood, h3.1] at h; exact h.2.1
  have e : { t with from_ := to + 1 } = mailT (to + 1) t.badge t.word := by
   rw [← ho]; simp [tOwn, h3.1, h3.2, mailT, Thing.zero]
  rw [e]
  rw [inB_iff] at hb
  exact mailT_good (by omega) (by omega) hb.1 hb.2
theorem non_lt {s : State} {k : Nat} (h : s.non k) : k < s.slots.length := by
 by_cases hk : k < s.slots.length
 ·exact hk
 ·have hz : s.slot k = Slot.zero := by simp [State.slot, List.getD, List.getElem?_eq_none (by omega : s.slots.length ≤ k)]
  simp only [State.non, hz] at h
  simp [Slot.zero, cNone, Cap.zero] at h
theorem has_lt {s : State} {k : Nat} {i : Int} (h : tHas (s.thing k) i = true) : k < s.things.length := by
 by_cases hk : k < s.things.length
 ·exact hk
 ·have hz : s.thing k = .zero := by simp [State.thing, List.getD, List.getElem?_eq_none (by omega : s.things.length ≤ k)]
  rw [hz] at h; simp [tHas, Thing.zero] at h
theorem Inv.move_edge {s u : State} (h : Inv s) {fr to : Nat} (hS : u.slots.length = s.slots.length) (hT : u.things.length = s.things.length)
 (hsf : u.slot fr = ⟨.zero, -1⟩) (hst : u.slot to = ⟨(s.slot fr).cap, (s.slot fr).up⟩) (hsl : ∀ k, k < s.slots.length → k ≠ fr → k ≠ to → u.slot k = ⟨(s.slot k).cap, if (s.slot k).up = (fr : Int) then (to : Int) else (s.slot k).up⟩)
 (hth : ∀ k, u.thing k = mvThing fr to (s.thing k)) (ho : ∃ n, n < s.things.length ∧ tHas (s.thing n) to = true) : ∀ n m, Edge u n m → Edge s n m ∨ (n = sOwner s to ∧ m = (s.slot fr).cap.th ∧ (s.slot fr).cap.ty = 2) := by
 intro n m e
 have hty : ∀ k, (u.thing k).ty = (s.thing k).ty := fun k => by rw [hth, mvThing_ty]
 have hthere : ∀ t, sThere u t = sThere s t := fun t => by simp only [sThere, hty, hT]
 obtain ⟨n0, i, hi, a, b, d, rfl⟩ := e
 rw [hth, mvThing_has] at b
 rw [hthere] at d
 rw [hS] at hi
 by_cases e : i = to
 ·subst e
  right
  rw [hst] at a ⊢
  refine ⟨?_, rfl, a⟩
  rw [owner_eq h.apart (has_lt b) b]; omega
 ·by_cases e' : i = fr
  ·subst e'; rw [hsf] at a; simp [Cap.zero] at a
  ·left
   rw [hsl i hi e' e] at a d ⊢
   exact ⟨n0, i, hi, a, b, d, rfl⟩
theorem Inv.move {s u : State} (h : Inv s) {fr to : Nat} (hf : fr < s.slots.length) (ht : to < s.slots.length) (hg : u.geo = s.geo) (hS : u.slots.length = s.slots.length) (hT : u.things.length = s.things.length)
 (hsf : u.slot fr = ⟨.zero, -1⟩) (hst : u.slot to = ⟨(s.slot fr).cap, (s.slot fr).up⟩) (hsl : ∀ k, k < s.slots.length → k ≠ fr → k ≠ to → u.slot k = ⟨(s.slot k).cap, if (s.slot k).up = (fr : Int) then (to : Int) else (s.slot k).up⟩)
 (hth : ∀ k, u.thing k = mvThing fr to (s.thing k)) (hfn : s.non fr) (hte : cNone (s.slot to).cap = true) (ho : ∃ n, n < s.things.length ∧ tHas (s.thing n) to = true)
 (hr : (s.slot fr).cap.ty = 2 → ¬ Reach s (s.slot fr).cap.th (sOwner s to)) : Inv u := by
 have hne : fr ≠ to := by rintro rfl; simp only [State.non] at hfn; rw [hfn] at hte; cases hte
 have hty : ∀ k, (u.thing k).ty = (s.thing k).ty := fun k => by rw [hth, mvThing_ty]
 have hthere : ∀ t, sThere u t = sThere s t := fun t => by simp only [sThere, hty, hT]
 have hhas : ∀ k i, tHas (u.thing k) i = tHas (s.thing k) i := fun k i => by rw [hth, mvThing_has]
 have hS96 := h.ok.lS
 have hnt : ∀ k, s.non k → k ≠ to := by rintro k hk rfl; simp only [State.non] at hk; rw [hk] at hte; cases hte
 -- where each one went
 obtain ⟨φ, hφ⟩ : ∃ φ : Nat → Nat, φ = fun k => if k = fr then to else k := ⟨_, rfl⟩
 have hφn : ∀ k, k ≠ fr → φ k = k := fun k hk => by simp [hφ, hk]
 have hφf : φ fr = to := by simp [hφ]
 have hupf : (s.slot fr).up ≠ (fr : Int) := by
  obtain ⟨r, hr⟩ := h.rank
  intro e
  have := hr fr hf hfn (by omega)
  rw [e] at this; simp at this
 have hgo : ∀ k, s.non k → u.slot (φ k) = ⟨(s.slot k).cap, if (s.slot k).up = (fr : Int) then (to : Int) else (s.slot k).up⟩ := by
  intro k hk
  by_cases e : k = fr
  ·subst e; rw [hφf, hst, if_neg hupf]
  ·rw [hφn k e]; exact hsl k (non_lt hk) e (hnt k hk)
 have hback : ∀ k, k < s.slots.length → u.non k → ∃ j, j < s.slots.length ∧ s.non j ∧ φ j = k := by
  intro k hk hn
  by_cases e : k = to
  ·exact ⟨fr, hf, hfn, by rw [hφf, e]⟩
  ·by_cases e' : k = fr
   ·subst e'; simp only [State.non, hsf] at hn; simp [cNone, Cap.zero] at hn
   ·refine ⟨k, hk, ?_, hφn k e'⟩
    simp only [State.non, hsl k hk e' e] at hn; exact hn
 have hnon : ∀ k, s.non k → u.non (φ k) := fun k hk => by simp only [State.non, hgo k hk]; exact hk
 have hlt : ∀ k, k < s.slots.length → φ k < s.slots.length := fun k hk => by
  by_cases e : k = fr
  ·subst e; rw [hφf]; exact ht
  ·rw [hφn k e]; exact hk
 have hupφ : ∀ k, k < s.slots.length → s.non k → (u.slot (φ k)).up = -1 ∧ (s.slot k).up = -1 ∨ (0 ≤ (s.slot k).up ∧ (s.slot k).up.toNat < s.slots.length ∧ s.non (s.slot k).up.toNat ∧ (u.slot (φ k)).up = (φ (s.slot k).up.toNat : Int)) := by
  intro k hk hn
  rw [hgo k hn]
  rcases h.up k hk hn with h1 | ⟨h1, h2, h3⟩
  ·left; simp only [h1]; exact ⟨by rw [if_neg (by omega)], trivial⟩
  ·right
   refine ⟨h1, by omega, h3, ?_⟩
   by_cases e : (s.slot k).up = (fr : Int)
   ·simp only [if_pos e]; rw [e, Int.toNat_natCast, hφf]
   ·simp only [if_neg e]; rw [hφn _ (by omega)]; omega
 refine ⟨by rw [hg]; exact h.geo, by rw [hS, hg]; exact h.lenS, by rw [hT, hg]; exact h.lenT, fun i hi => ?_, fun i hi hin => ?_, fun i hi hin => ?_, fun k hk => ?_, fun k hk h0 => ?_, fun k hk hrb => ?_, fun k hk hrb hk0 => ?_, fun k hk => ?_,
  fun n hn m hm i => by rw [hhas, hhas]; exact h.apart n (hT ▸ hn) m hm i, fun i hi hin => ?_, ?_, fun i hi hin => ?_, ?_, fun i hi hin h0 => ?_⟩
 ·rw [hS] at hi
  by_cases e : i = to
  ·subst e; rw [hst]; exact h.capG fr hf
  ·by_cases e' : i = fr
   ·subst e'; rw [hsf]; simp [cGood, cNone, Cap.zero]
   ·rw [hsl i hi e' e]; exact h.capG i hi
 ·rw [hS] at hi
  by_cases e : i = to
  ·subst e; rw [hst] at hin; simp only [State.non] at hfn; rw [hfn] at hin; cases hin
  ·by_cases e' : i = fr
   ·subst e'; rw [hsf]
   ·rw [hsl i hi e' e] at hin ⊢
    have := h.upN i hi hin
    simp only [this]; rw [if_neg (by omega)]
 ·obtain ⟨j, hj, hjn, rfl⟩ := hback i (hS ▸ hi) hin
  rw [hgo j hjn, hthere, hty]; exact h.capT j hj hjn
 ·rw [hth]; exact mvThing_good (h.tGood k (hT ▸ hk)) (by omega) (by omega) (by omega)
 ·rw [hth] at h0 ⊢
  simp only [mvThing] at h0 ⊢
  cases hd : decide ((s.thing k).from_ = (fr : Int) + 1) with
  | true =>
   simp only [cond_true]
   refine ⟨by omega, ?_⟩
   rw [show ((to : Int) + 1 - 1).toNat = φ fr by rw [hφf]; omega]
   exact hnon fr hfn
  | false =>
   rw [hd] at h0
   simp only [cond_false] at h0 ⊢
   simp at hd
   have := h.from_ k (hT ▸ hk) h0
   refine ⟨by omega, ?_⟩
   rw [← hφn ((s.thing k).from_ - 1).toNat (by omega)]
   exact hnon _ this.2
 ·rw [hth, h.root k (hT ▸ hk) (by simpa only [rootB, hg] using hrb), hg]
  simp only [mvThing, rootT]
  rw [show decide ((0 : Int) = (fr : Int) + 1) = false by simp; omega]
  rfl
 ·rw [hty] at hk0
  obtain ⟨i, a, b, c⟩ := h.held k (hT ▸ hk) (by simpa only [rootB, hg] using hrb) hk0
  exact ⟨φ i, by rw [hS]; exact hlt i a, hnon i b, by rw [hgo i b]; exact c⟩
 ·intro hk2
  rw [hty] at hk2
  have := h.fit k (hT ▸ hk) hk2
  rw [hth, mvThing_fit.1, mvThing_fit.2, hS]; exact this
 ·obtain ⟨j, hj, hjn, rfl⟩ := hback i (hS ▸ hi) hin
  by_cases e : j = fr
  ·subst e
   obtain ⟨n, a, b⟩ := ho
   exact ⟨n, hT ▸ a, by rw [hhas, hφf]; exact b⟩
  ·obtain ⟨n, a, b⟩ := h.has j hj hjn
   exact ⟨n, hT ▸ a, by rw [hhas, hφn j e]; exact b⟩
 ·have hed := h.move_edge hS hT hsf hst hsl hth ho
  by_cases h2 : (s.slot fr).cap.ty = 2
  ·exact ring_add (o := sOwner s to) (t := (s.slot fr).cap.th) h.ring hT (fun n m e => by rcases hed n m e with e | ⟨e1, e2, _⟩; exact .inl e; exact .inr ⟨e1, e2⟩) (hr h2)
  ·exact ring_sub h.ring hT fun n m e => by rcases hed n m e with e | ⟨_, _, e⟩; exact e; exact absurd e h2
 ·obtain ⟨j, hj, hjn, rfl⟩ := hback i (hS ▸ hi) hin
  rcases hupφ j hj hjn with ⟨h1, _⟩ | ⟨h1, h2, h3, h4⟩
  ·exact .inl h1
  ·right
   rw [h4]
   exact ⟨by omega, by rw [hS]; have := hlt _ h2; omega, by simpa using hnon _ h3⟩
 ·obtain ⟨r, hr⟩ := h.rank
  refine ⟨fun k => if k = to then r fr else r k, fun i hi hin h0 => ?_⟩
  obtain ⟨j, hj, hjn, rfl⟩ := hback i (hS ▸ hi) hin
  have key : ∀ k, s.non k → (if φ k = to then r fr else r (φ k)) = r k := by
   intro k hk
   by_cases e : k = fr
   ·subst e; rw [hφf]; simp
   ·rw [hφn k e, if_neg (hnt k hk)]
  rcases hupφ j hj hjn with ⟨h1, _⟩ | ⟨h1, h2, h3, h4⟩
  ·omega
  ·rw [h4]; simp only [Int.toNat_natCast]; rw [key _ h3, key _ hjn]; exact hr j hj hjn h1
 ·obtain ⟨j, hj, hjn, rfl⟩ := hback i (hS ▸ hi) hin
  rcases hupφ j hj hjn with ⟨h1, _⟩ | ⟨h1, h2, h3, h4⟩
  ·omega
  ·rw [h4]; simp only [Int.toNat_natCast]; rw [hgo j hjn, hgo _ h3]; exact h.allow j hj hjn h1
end Go.Ax.M
namespace Go.Ax.M
open Go Go.Ax
theorem fold_set {v : Int} : ∀ (L : List Int) (up : List Int), (L.foldl (fun l k => l.set k.toNat v) up).length = up.length ∧
 ∀ k, k < up.length → (L.foldl (fun l k => l.set k.toNat v) up).getD k 0 = if (L.any fun j => decide (j.toNat = k)) = true then v else up.getD k 0
 | [], up => ⟨rfl, fun k _ => by simp⟩
 | j :: L, up => by
  have ih := fold_set (v := v) L (up.set j.toNat v)
  rw [List.foldl_cons]
  refine ⟨by rw [ih.1, List.length_set], fun k hk => ?_⟩
  rw [ih.2 k (by rw [List.length_set]; exact hk)]
  simp only [List.any_cons, Bool.or_eq_true, decide_eq_true_eq]
  by_cases h1 : (L.any fun j => decide (j.toNat = k)) = true
  ·rw [if_pos h1, if_pos (.inr h1)]
  ·rw [if_neg h1]
   by_cases h2 : j.toNat = k
   ·rw [if_pos (.inl h2)]; subst h2; simp [List.getD, hk]
   ·rw [if_neg (by rintro (h | h); exact h2 h; exact h1 h)]
    simp only [List.getD, List.getElem?_set_ne h2]
theorem of_any {up : List Int} {i : Int} {k : Nat} (hk : k < up.length) : ((fOf up i).any fun j => decide (j.toNat = k)) = decide (up.getD k 0 = i) := by
 rw [Bool.eq_iff_iff]
 simp only [fOf, pick, List.any_eq_true, List.mem_map, List.mem_filter, List.mem_range, decide_eq_true_eq]
 constructor
 ·rintro ⟨_, ⟨j, ⟨_, h1⟩, rfl⟩, h2⟩
  simp at h2; subst h2; exact h1
 ·intro h
  exact ⟨k, ⟨k, ⟨hk, h⟩, rfl⟩, by simp⟩
theorem fMove_get {up : List Int} {fr to : Nat} (hf : fr < up.length) (ht : to < up.length) (hne : fr ≠ to) (hup : up.getD fr 0 ≠ (fr : Int)) {k : Nat} (hk : k < up.length) :
 (fMove up fr to).getD k 0 = if k = fr then -2 else if k = to then up.getD fr 0 else if up.getD k 0 = (fr : Int) then (to : Int) else up.getD k 0 := by
 obtain ⟨l1, l2⟩ := fold_set (v := (to : Int)) (fOf up fr) up
 have hg : ∀ k, k < up.length → ((fOf up fr).foldl (fun l k => l.set k.toNat (to : Int)) up).getD k 0 = if up.getD k 0 = (fr : Int) then (to : Int) else up.getD k 0 := by
  intro k hk
  rw [l2 k hk, of_any hk]; simp
 simp only [fMove, Int.toNat_natCast]
 by_cases e : k = fr
 ·subst e; simp [List.getD, l1, hf]
 ·rw [if_neg e]
  have : ∀ (l : List Int) (v : Int), (l.set fr v).getD k 0 = l.getD k 0 := fun l v => by simp only [List.getD, List.getElem?_set_ne (fun h => e h.symm)]
  rw [this]
  by_cases e' : k = to
  ·subst e'
   rw [if_pos rfl]
   have := hg fr hf
   rw [if_neg hup] at this
   rw [← this]; simp only [List.getD]; rw [List.getElem?_set_self (by rw [l1]; exact ht)]; rfl
  ·rw [if_neg e']
   have : ∀ (l : List Int) (v : Int), (l.set to v).getD k 0 = l.getD k 0 := fun l v => by simp only [List.getD, List.getElem?_set_ne (fun h => e' h.symm)]
   rw [this]; exact hg k hk
theorem movedS_len {s : State} {fr to : Int} : (movedS s fr to).slots.length = s.slots.length := by simp [movedS]
theorem movedS_lenT {s : State} {fr to : Int} : (movedS s fr to).things.length = s.things.length := by simp [movedS]
theorem movedS_thing {s : State} {fr to : Int} (hf : 0 ≤ fr) (k : Nat) : (movedS s fr to).thing k = mvThing fr to (s.thing k) := by
 simp only [movedS, State.thing, List.getD, List.getElem?_map]
 cases h : s.things[k]? with
 | some t => rfl
 | none =>
  simp only [Option.map_none, Option.getD_none, mvThing, Thing.zero]
  rw [show decide ((0 : Int) = fr + 1) = false by simp; omega]; rfl
structure Moves (s : State) (fr to : Nat) : Prop where
 inv : Inv s
 hf : fr < s.slots.length
 ht : to < s.slots.length
 hfn : s.non fr
 hte : cNone (s.slot to).cap = true
 ho : ∃ n, n < s.things.length ∧ tHas (s.thing n) to = true
 hr : (s.slot fr).cap.ty = 2 → ¬ Reach s (s.slot fr).cap.th (sOwner s to)
theorem Moves.ne {s : State} {fr to : Nat} (m : Moves s fr to) : fr ≠ to := by
 rintro rfl; have h := m.hfn; simp only [State.non] at h; rw [m.hte] at h; cases h
theorem Moves.upf {s : State} {fr to : Nat} (m : Moves s fr to) : (s.slot fr).up ≠ (fr : Int) := by
 obtain ⟨r, hr⟩ := m.inv.rank
 intro e
 have := hr fr m.hf m.hfn (by omega)
 rw [e] at this; simp at this
theorem Moves.slot {s : State} {fr to : Nat} (m : Moves s fr to) {k : Nat} (hk : k < s.slots.length) : (movedS s fr to).slot k =
 if k = fr then ⟨.zero, -1⟩ else if k = to then ⟨(s.slot fr).cap, (s.slot fr).up⟩ else ⟨(s.slot k).cap, if (s.slot k).up = (fr : Int) then (to : Int) else (s.slot k).up⟩ := by
 have e : (movedS s fr to).slot k = mvSlot s fr to k := by simp [movedS, State.slot, List.getD, hk]
 have hfl : (sForest s).length = s.slots.length := sForest_length
 have hfn := m.hfn
 simp only [State.non] at hfn
 have hup : (sForest s).getD fr 0 = (s.slot fr).up := by rw [sForest_get m.hf]; simp [upOf, hfn]
 have hge : ∀ i, i < s.slots.length → s.non i → -1 ≤ (s.slot i).up := fun i hi hn => by rcases m.inv.up i hi hn with h | h <;> omega
 rw [e]
 simp only [mvSlot, Int.toNat_natCast]
 rw [fMove_get (by rw [hfl]; exact m.hf) (by rw [hfl]; exact m.ht) m.ne (by rw [hup]; exact m.upf) (by rw [hfl]; exact hk)]
 by_cases e1 : k = fr
 ·subst e1; simp; omega
 ·have e1' : ¬ ((k : Int) = (fr : Int)) := by omega
  simp only [if_neg e1, if_neg e1']
  by_cases e2 : k = to
  ·subst e2
   simp only [if_true, hup]
   rw [Int.max_eq_left (hge fr m.hf m.hfn)]
  ·have e2' : ¬ ((k : Int) = (to : Int)) := by omega
   simp only [if_neg e2, if_neg e2']
   rw [sForest_get hk]
   cases hn : cNone (s.slot k).cap with
   | true =>
    have := m.inv.upN k hk hn
    simp only [upOf, hn, cond_true, this]
    rw [if_neg (by omega), if_neg (by omega)]; rfl
   | false =>
    have := hge k hk hn
    simp only [upOf, hn, cond_false]
    congr 1
    split <;> omega
theorem Moves.inv' {s : State} {fr to : Nat} (m : Moves s fr to) : Inv (movedS s fr to) := by
 refine m.inv.move m.hf m.ht rfl movedS_len movedS_lenT ?_ ?_ (fun k hk h1 h2 => ?_) (fun k => movedS_thing (by omega) k) m.hfn m.hte m.ho m.hr
 ·rw [m.slot m.hf, if_pos rfl]
 ·rw [m.slot m.ht, if_neg (Ne.symm m.ne), if_pos rfl]
 ·rw [m.slot hk, if_neg h1, if_neg h2]
theorem Moves.edge {s : State} {fr to : Nat} (m : Moves s fr to) : ∀ n k, Edge (movedS s fr to) n k → Edge s n k ∨ (n = sOwner s to ∧ k = (s.slot fr).cap.th ∧ (s.slot fr).cap.ty = 2) := by
 refine m.inv.move_edge movedS_len movedS_lenT ?_ ?_ (fun k hk h1 h2 => ?_) (fun k => movedS_thing (by omega) k) m.ho
 ·rw [m.slot m.hf, if_pos rfl]
 ·rw [m.slot m.ht, if_neg (Ne.symm m.ne), if_pos rfl]
 ·rw [m.slot hk, if_neg h1, if_neg h2]
theorem Moves.owner {s : State} {fr to : Nat} (n : Int) : sOwner (movedS s fr to) n = sOwner s n := by
 simp only [sOwner, movedS_lenT, movedS_thing (show (0 : Int) ≤ (fr : Int) by omega), mvThing_has]
theorem state_ext {s u : State} (hg : u.geo = s.geo) (hS : u.slots.length = s.slots.length) (hT : u.things.length = s.things.length) (h1 : ∀ k, k < s.slots.length → u.slot k = s.slot k) (h2 : ∀ k, k < s.things.length → u.thing k = s.thing k) : u = s := by
 obtain ⟨g, a, b⟩ := s
 obtain ⟨g', a', b'⟩ := u
 simp only at hg hS hT h1 h2
 subst hg
 have e1 : a' = a := by
  apply List.ext_getElem hS
  intro i hi hi'
  have := h1 i hi'
  simpa [State.slot, List.getD, hi, hi'] using this
 have e2 : b' = b := by
  apply List.ext_getElem hT
  intro i hi hi'
  have := h2 i hi'
  simpa [State.thing, List.getD, hi, hi'] using this
 rw [e1, e2]
theorem Moves.back {s : State} {fr to : Nat} (m : Moves s fr to) (m' : Moves (movedS s fr to) to fr) : movedS (movedS s fr to) to fr = s := by
 refine state_ext rfl (by rw [movedS_len, movedS_len]) (by rw [movedS_lenT, movedS_lenT]) (fun k hk => ?_) (fun k hk => ?_)
 ·rw [m'.slot (by rw [movedS_len]; exact hk)]
  by_cases e1 : k = to
  ·subst e1
   rw [if_pos rfl, ← none_cap m.hte, ← m.inv.upN k hk m.hte]
  ·rw [if_neg e1]
   by_cases e2 : k = fr
   ·subst e2
    rw [if_pos rfl, m.slot m.ht, if_neg (Ne.symm m.ne), if_pos rfl]
   ·rw [if_neg e2, m.slot hk, if_neg e2, if_neg e1]
    have hnu : (s.slot k).up ≠ (to : Int) := by
     intro e
     cases hn : cNone (s.slot k).cap with
     | true => have := m.inv.upN k hk hn; omega
     | false =>
      rcases m.inv.up k hk hn with h | ⟨_, _, h⟩
      ·omega
      ·rw [e] at h; simp only [State.non, Int.toNat_natCast, m.hte] at h; cases h
    by_cases e3 : (s.slot k).up = (fr : Int)
    ·simp only [if_pos e3, if_true]; rw [← e3]
    ·simp only [if_neg e3, if_neg hnu]
 ·rw [movedS_thing (by omega), movedS_thing (by omega)]
  have hnf : (s.thing k).from_ ≠ (to : Int) + 1 := by
   intro e
   have := (m.inv.from_ k hk (by omega)).2
   rw [e, show ((to : Int) + 1 - 1).toNat = to by omega] at this
   simp only [State.non, m.hte] at this; cases this
  simp only [mvThing]
  cases hd : decide ((s.thing k).from_ = (fr : Int) + 1) with
  | true =>
   simp at hd
   simp only [cond_true, decide_true]
   rw [← hd]
  | false =>
   simp only [cond_false]
   rw [show decide ((s.thing k).from_ = (to : Int) + 1) = false by simpa using hnf]; rfl
theorem ringM_false {s : State} (h : Inv s) {c : Cap} {to : Int} (h0 : 0 ≤ to) (h1 : to < s.slots.length) (hth : sThere s c.th = true ∧ (s.thing c.th.toNat).ty = c.ty) : ringM s c to = false ↔ (c.ty = 2 → ¬ Reach s c.th (sOwner s to)) := by
 have hg := h.ok.good
 simp only [ringM, sInsideX, hg, h0, h1, decide_true, Bool.true_and]
 constructor
 ·intro h2 h3 h4
  have : sInside s c.th to = true := sInside_iff.2 ⟨hth.1, by rw [hth.2]; exact h3, h4⟩
  simp [h3, this] at h2
 ·intro h2
  by_cases h3 : c.ty = 2
  ·cases h4 : sInside s c.th to with
   | false => simp
   | true => exact absurd (sInside_iff.1 h4).2.2 (h2 h3)
  ·simp [h3]
theorem moves_of {s : State} {th : Int} {c : Call} (h1 : (fCap s th c.a).2.2 = 0) (h2 : (fEmpty s th c.b).2 = 0) (h3 : ringM s (fCap s th c.a).2.1 (fEmpty s th c.b).1 = false) : Moves s (fCap s th c.a).1.toNat (fEmpty s th c.b).1.toNat := by
 obtain ⟨inv, a1, a2, a3, a4, _⟩ := fCap_ok h1
 obtain ⟨_, b1, b2, b3, b4, _⟩ := fEmpty_ok h2
 have e : (((fEmpty s th c.b).1.toNat : Nat) : Int) = (fEmpty s th c.b).1 := by omega
 have ht := inv.capT _ (by omega) a4
 rw [a3] at h3
 exact ⟨inv, by omega, by omega, a4, b3, by rw [e]; exact b4, by rw [e]; exact (ringM_false inv b1 b2 ht).1 h3⟩
theorem giveM_bad {s : State} {th : Int} {c : Call} (h : (giveM s th c).st = none) : ∃ e, e ≠ 0 ∧ giveM s th c = .bad e := by
 simp only [giveM] at h ⊢
 cases h1 : (!callGood c || (!decide (c.op = 2) && (!decide (c.op = 3) && !decide (c.op = 4)))) with
 | true => exact ⟨1, by decide, rfl⟩
 | false =>
 simp only [h1, cond_false] at h ⊢
 cases h2 : decide ((fCap s th c.a).2.2 = 0) with
 | false => exact ⟨_, by simpa using h2, rfl⟩
 | true =>
 simp only [h2, Bool.not_true, cond_false] at h ⊢
 cases h3 : (decide (c.op = 3) && !decide ((cStamp (giveX c (fCap s th c.a).2.1) c.y).2 = 0)) with
 | true => simp at h3; exact ⟨_, h3.2, rfl⟩
 | false =>
 simp only [h3, cond_false] at h ⊢
 cases h4 : decide ((fEmpty s th c.b).2 = 0) with
 | false => exact ⟨_, by simpa using h4, rfl⟩
 | true =>
 simp only [h4, Bool.not_true, cond_false] at h ⊢
 simp only [giveIn] at h ⊢
 cases h5 : decide (c.op = 4) with
 | true =>
  simp only [h5, Bool.not_true, cond_false] at h ⊢
  revert h
  cases ringM s (bif decide (c.op = 3) then (cStamp (giveX c (fCap s th c.a).2.1) c.y).1 else giveX c (fCap s th c.a).2.1) (fEmpty s th c.b).1 with
  | true => intro _; exact ⟨1, by decide, rfl⟩
  | false => intro h; simp at h
 | false =>
  simp only [h5, Bool.not_false, cond_true] at h ⊢
  cases h6 : decide (putE s (fCap s th c.a).1 (fEmpty s th c.b).1 (bif decide (c.op = 3) then (cStamp (giveX c (fCap s th c.a).2.1) c.y).1 else giveX c (fCap s th c.a).2.1) = 0) with
  | true => rw [h6] at h; simp at h
  | false => exact ⟨_, by simpa using h6, rfl⟩
theorem giveM_none {s : State} {th : Int} {c : Call} (h : (giveM s th c).st = none) : (giveM s th c).err ≠ 0 := by
 obtain ⟨e, he, h2⟩ := giveM_bad h
 rw [h2]; exact he
end Go.Ax.M
namespace Go.Ax.M
open Go Go.Ax
theorem bellT_good {t : Thing} (h : tGood t = true) (h4 : t.ty = 4) (w : Int) : tGood { t with word := w } = true ∧ t.from_ = 0 := by
 have ho : tOwn t = t := by simp [tGood] at h; exact tEq_iff.1 h.1
 have e : t = { Thing.zero with ty := 4, word := t.word } := by rw [← ho]; simp [tOwn, h4, Thing.zero]
 rw [e]; simp [tGood, tOwn, tEq, Thing.zero]
theorem leafT_good {t : Thing} (h : tGood t = true) (h5 : t.ty = 5) (i v : Int) : tGood (tSet t i v) = true ∧ (tSet t i v).from_ = 0 ∧ (tSet t i v).ty = 5 := by
 have ho : tOwn t = t := by simp [tGood] at h; exact tEq_iff.1 h.1
 have e : t = { Thing.zero with ty := 5, d0 := t.d0, d1 := t.d1, d2 := t.d2, d3 := t.d3 } := by rw [← ho]; simp [tOwn, h5, Thing.zero]
 rw [e]
 simp only [tSet]
 cases decide (i = 0) <;> cases decide (i = 1) <;> cases decide (i = 2) <;> simp [tGood, tOwn, tEq, Thing.zero]
theorem bellM_some {s : State} {th : Int} {c : Call} {x : State} (h : (bellM s th c).st = some x) : callGood c = true ∧ (fCap s th c.a).2.2 = 0 ∧ (fCap s th c.a).2.1.ty = 4 ∧ (bellM s th c).err = 0 ∧
 ((c.op = 9 ∧ rWithin 2 (fCap s th c.a).2.1.ri = true ∧ bellM s th c = ⟨0, 0, 0, some x⟩ ∧ x = boxed s (fCap s th c.a).2.1.th { s.thing (fCap s th c.a).2.1.th.toNat with word := orU (s.thing (fCap s th c.a).2.1.th.toNat).word (p2 ((fCap s th c.a).2.1.ba.tmod 64)) }) ∨
  (c.op = 10 ∧ x = boxed s (fCap s th c.a).2.1.th { s.thing (fCap s th c.a).2.1.th.toNat with word := 0 })) := by
 simp only [bellM] at h ⊢
 cases h1 : (!callGood c || (!decide (c.op = 9) && !decide (c.op = 10))) with
 | true => simp [h1, Res.bad] at h
 | false =>
 simp only [h1, cond_false] at h ⊢
 cases h2 : decide ((fCap s th c.a).2.2 = 0) with
 | false => simp [h2, Res.bad] at h
 | true =>
 simp only [h2, Bool.not_true, cond_false] at h ⊢
 cases h3 : decide ((fCap s th c.a).2.1.ty = 4) with
 | false => simp [h3, Res.bad] at h
 | true =>
 simp only [h3, Bool.not_true, cond_false] at h ⊢
 cases h4 : rWithin (bif decide (c.op = 10) then 1 else 2) (fCap s th c.a).2.1.ri with
 | false => simp [h4, Res.bad] at h
 | true =>
 simp only [h4, Bool.not_true, cond_false] at h ⊢
 simp at h1 h2 h3
 refine ⟨h1.1, h2, h3, ?_⟩
 by_cases h10 : c.op = 10
 ·simp only [h10, decide_true, Bool.true_and, cond_true] at h ⊢
  cases h5 : decide ((s.thing (fCap s th c.a).2.1.th.toNat).word = 0) with
  | true => simp [h5, Res.bad] at h
  | false =>
   simp only [h5, cond_false, Option.some.injEq] at h ⊢
   exact ⟨trivial, .inr ⟨trivial, h.symm⟩⟩
 ·have h9 : c.op = 9 := Classical.byContradiction fun e => h10 (h1.2 e)
  simp only [h9, show decide ((9 : Int) = 10) = false from rfl, Bool.false_and, cond_false, Option.some.injEq] at h h4 ⊢
  exact ⟨trivial, .inl ⟨trivial, h4, by rw [h], h.symm⟩⟩
theorem leafM_some {s : State} {th : Int} {c : Call} {x : State} (h : (leafM s th c).st = some x) : c.op = 11 ∧ callGood c = true ∧ (fCap s th c.a).2.2 = 0 ∧ (fCap s th c.a).2.1.ty = 5 ∧ leafM s th c = ⟨0, 0, 0, some x⟩ ∧
 x = boxed s (fCap s th c.a).2.1.th (tSet (s.thing (fCap s th c.a).2.1.th.toNat) c.x c.w) := by
 simp only [leafM] at h ⊢
 cases h1 : (!callGood c || (!decide (c.op = 11) && (!decide (c.op = 12) && !decide (c.op = 13)))) with
 | true => simp [h1, Res.bad] at h
 | false =>
 simp only [h1, cond_false] at h ⊢
 cases h2 : decide ((fCap s th c.a).2.2 = 0) with
 | false => simp [h2, Res.bad] at h
 | true =>
 simp only [h2, Bool.not_true, cond_false] at h ⊢
 cases h13 : decide (c.op = 13) with
 | true => simp [h13] at h
 | false =>
 simp only [h13, cond_false] at h ⊢
 cases h3 : decide ((fCap s th c.a).2.1.ty = 5) with
 | false => simp [h3, Res.bad] at h
 | true =>
 simp only [h3, Bool.not_true, cond_false] at h ⊢
 cases h4 : rWithin (bif decide (c.op = 12) then 1 else 2) (fCap s th c.a).2.1.ri with
 | false => simp [h4, Res.bad] at h
 | true =>
 simp only [h4, Bool.not_true, cond_false] at h ⊢
 cases h12 : decide (c.op = 12) with
 | true => simp [h12] at h
 | false =>
 simp only [h12, cond_false, Option.some.injEq] at h ⊢
 simp at h1 h2 h3 h12 h13
 refine ⟨Classical.byContradiction fun e => h13 (h1.2 e h12), h1.1, h2, h3, by rw [h], h.symm⟩
end Go.Ax.M
namespace Go.Ax.M
open Go Go.Ax
theorem bv_nat {n : Nat} (h : n < 2 ^ 64) : (BitVec.ofInt 64 (n : Int)).toNat = n := by
 rw [BitVec.ofInt_natCast, BitVec.toNat_ofNat, Nat.mod_eq_of_lt h]
theorem wrap_nat {n : Nat} (h : n < 2 ^ 64) : IntKind.wrap .u64 (n : Int) = (n : Int) := by
 simp [IntKind.wrap, IntKind.bits, IntKind.signed]; omega
theorem wrap_u {n : Int} (h0 : 0 ≤ n) (h : n < 2 ^ 64) : IntKind.wrap .u64 n = n := by
 simp [IntKind.wrap, IntKind.bits, IntKind.signed]; omega
theorem and_nat {a b : Nat} (ha : a < 2 ^ 64) (hb : b < 2 ^ 64) : IntKind.wrap .u64 ((BitVec.ofInt 64 (a : Int) &&& BitVec.ofInt 64 (b : Int)).toNat : Int) = ((a &&& b : Nat) : Int) := by
 rw [BitVec.toNat_and, bv_nat ha, bv_nat hb]
 exact wrap_nat (Nat.lt_of_le_of_lt Nat.and_le_left ha)
theorem or_nat {a b : Nat} (ha : a < 2 ^ 64) (hb : b < 2 ^ 64) : IntKind.wrap .u64 ((BitVec.ofInt 64 (a : Int) ||| BitVec.ofInt 64 (b : Int)).toNat : Int) = ((a ||| b : Nat) : Int) := by
 rw [BitVec.toNat_or, bv_nat ha, bv_nat hb]
 exact wrap_nat (Nat.or_lt_two_pow ha hb)
theorem and_low {w : Int} {k : Nat} (h0 : 0 ≤ w) (h : w < 2 ^ 64) (hk : k ≤ 63) : IntKind.wrap .u64 ((BitVec.ofInt 64 w &&& BitVec.ofInt 64 (2 ^ k - 1)).toNat : Int) = w % 2 ^ k := by
 obtain ⟨n, rfl⟩ := Int.eq_ofNat_of_zero_le h0
 have hk2 : (2 : Nat) ^ k < 2 ^ 64 := Nat.pow_lt_pow_right (by omega) (by omega)
 have hp : 0 < (2 : Nat) ^ k := Nat.pow_pos (by omega)
 have e : ((2 : Int) ^ k - 1) = ((2 ^ k - 1 : Nat) : Int) := by
  rw [Int.ofNat_sub hp]; simp
 rw [e, and_nat (by omega) (by omega), Nat.and_two_pow_sub_one_eq_mod]
 simp
theorem or_add {a b : Int} {k : Nat} (ha : 0 ≤ a) (hk : a < 2 ^ k) (hb : 0 ≤ b) (h : a + b * 2 ^ k < 2 ^ 64) : IntKind.wrap .u64 ((BitVec.ofInt 64 a ||| BitVec.ofInt 64 (b * 2 ^ k)).toNat : Int) = a + b * 2 ^ k := by
 obtain ⟨n, rfl⟩ := Int.eq_ofNat_of_zero_le ha
 obtain ⟨m, rfl⟩ := Int.eq_ofNat_of_zero_le hb
 have e : ((m : Int) * 2 ^ k) = ((m * 2 ^ k : Nat) : Int) := by simp
 have hk' : n < 2 ^ k := by
  have : (n : Int) < ((2 ^ k : Nat) : Int) := by simpa using hk
  omega
 rw [e] at h ⊢
 rw [or_nat (by omega) (by omega), Nat.or_comm, Nat.mul_comm, ← Nat.two_pow_add_eq_or_of_lt hk']
 simp; omega
theorem field_u {w : Int} {f n : Nat} (h0 : 0 ≤ w) (h : w < 2 ^ 64) (hf : f + n ≤ 63) : (IntKind.wrap .u64 ((BitVec.ofInt 64 w &&& BitVec.ofInt 64 ((2 ^ n - 1) * 2 ^ f)).toNat : Int)) / 2 ^ f = w / 2 ^ f % 2 ^ n := by
 obtain ⟨x, rfl⟩ := Int.eq_ofNat_of_zero_le h0
 have hn : 0 < (2 : Nat) ^ n := Nat.pow_pos (by omega)
 have hff : 0 < (2 : Nat) ^ f := Nat.pow_pos (by omega)
 have e : ((2 : Int) ^ n - 1) * 2 ^ f = (((2 ^ n - 1) * 2 ^ f : Nat) : Int) := by
  rw [Int.natCast_mul, Int.ofNat_sub hn]; simp
 have hm : (2 ^ n - 1) * 2 ^ f < 2 ^ 64 := by
  have h1 : (2 ^ n - 1) * 2 ^ f < 2 ^ n * 2 ^ f := Nat.mul_lt_mul_of_pos_right (by omega) hff
  have h2 : 2 ^ n * 2 ^ f = 2 ^ (f + n) := by rw [← Nat.pow_add, Nat.add_comm]
  have h3 : (2 : Nat) ^ (f + n) < 2 ^ 64 := Nat.pow_lt_pow_right (by omega) (by omega)
  omega
 have hx : x < 2 ^ 64 := by omega
 rw [e, and_nat hx hm]
 have e2 : (x &&& (2 ^ n - 1) * 2 ^ f) / 2 ^ f = x / 2 ^ f % 2 ^ n := by
  rw [← Nat.shiftRight_eq_div_pow, ← Nat.shiftRight_eq_div_pow, Nat.shiftRight_and_distrib, ← Nat.and_two_pow_sub_one_eq_mod]
  congr 1
  rw [Nat.shiftRight_eq_div_pow, Nat.mul_div_cancel _ hff]
 have := congrArg (fun a : Nat => (a : Int)) e2
 simpa using this
end Go.Ax.M
namespace Go.Ax.M
open Go Go.Ax
theorem gap_spec {s : State} {m : Int} : ∀ (r i : Nat) (many : Int) {b : Int}, 0 ≤ many → many ≤ i → (∀ j : Nat, (i : Int) - many ≤ j → j < i → sOwner s j = -1) → gapGo s m r i many = (b, true) →
 0 ≤ b ∧ b + m ≤ i + r ∧ ∀ j : Nat, b ≤ j → (j : Int) < b + m → sOwner s j = -1
 | 0, i, many, b, _, _, _, h => by simp [gapGo] at h
 | r + 1, i, many, b, h0, h1, hf, h => by
  rw [gapGo] at h
  by_cases ho : sOwner s i = -1
  ·simp only [ho, decide_true, cond_true] at h
   by_cases hm : many + 1 = m
   ·simp only [hm, decide_true, cond_true, Prod.mk.injEq, and_true] at h
    refine ⟨by omega, by omega, fun j hj1 hj2 => ?_⟩
    by_cases e : j = i
    ·rw [e]; exact ho
    ·exact hf j (by omega) (by omega)
   ·simp only [hm, decide_false, cond_false] at h
    have := gap_spec r (i + 1) (many + 1) (by omega) (by omega) (fun j hj1 hj2 => by
     by_cases e : j = i
     ·rw [e]; exact ho
     ·exact hf j (by omega) (by omega)) h
    refine ⟨this.1, by omega, this.2.2⟩
  ·simp only [ho, decide_false, cond_false] at h
   by_cases hm : (0 : Int) = m
   ·simp only [hm, decide_true, cond_true, Prod.mk.injEq, and_true] at h
    exact ⟨by omega, by omega, fun j hj1 hj2 => by omega⟩
   ·simp only [hm, decide_false, cond_false] at h
    have := gap_spec r (i + 1) 0 (by omega) (by omega) (fun j hj1 hj2 => by omega) h
    exact ⟨this.1, by omega, this.2.2⟩
structure Makes (s u : State) (fr to n r : Nat) (T R : Thing) : Prop where
 inv : Inv s
 hg : u.geo = s.geo
 hS : u.slots.length = s.slots.length
 hT : u.things.length = s.things.length
 hsl : ∀ k, u.slot k = if k = to then ⟨⟨T.ty, (n : Int), 7, 0⟩, (fr : Int)⟩ else s.slot k
 hth : ∀ k, u.thing k = if k = r then R else if k = n then T else s.thing k
 hf : fr < s.slots.length
 ht : to < s.slots.length
 hn : n < s.things.length
 hr : r < s.things.length
 hn0 : (s.thing n).ty = 0
 hr1 : (s.thing r).ty = 1
 hR : R.ty = 1 ∧ R.from_ = (s.thing r).from_ ∧ tGood R = true
 hTg : tGood T = true ∧ 1 ≤ T.ty ∧ T.ty ≤ 5 ∧ T.from_ = 0
 hT2 : T.ty = 2 → T.base + p2 T.bits ≤ s.slots.length ∧ ∀ i : Nat, tHas T i = true → sOwner s i = -1
 hfr : (s.slot fr).cap.ty = 1 ∧ (s.slot fr).cap.th = r
 hte : cNone (s.slot to).cap = true
 ho : ∃ k, k < s.things.length ∧ tHas (s.thing k) to = true
theorem Makes.inv' {s u : State} {fr to n r : Nat} {T R : Thing} (m : Makes s u fr to n r T R) : Inv u := by
 obtain ⟨h, hg, hS, hT, hsl, hth, hf, ht, hn, hr, hn0, hr1, ⟨hR1, hR2, hR3⟩, ⟨hT1, hT2, hT3, hT4⟩, hTn, ⟨hfr1, hfr2⟩, hte, ho⟩ := m
 have hfn : s.non fr := non_of (by omega)
 have hne : fr ≠ to := by rintro rfl; simp only [State.non] at hfn; rw [hfn] at hte; cases hte
 have hnr : n ≠ r := by rintro rfl; omega
 have hto : u.slot to = ⟨⟨T.ty, (n : Int), 7, 0⟩, (fr : Int)⟩ := by rw [hsl, if_pos rfl]
 have hel : ∀ k, k ≠ to → u.slot k = s.slot k := fun k hk => by rw [hsl, if_neg hk]
 have htr : u.thing r = R := by rw [hth, if_pos rfl]
 have htn : u.thing n = T := by rw [hth, if_neg hnr, if_pos rfl]
 have hte' : ∀ k, k ≠ r → k ≠ n → u.thing k = s.thing k := fun k h1 h2 => by rw [hth, if_neg h1, if_neg h2]
 have hty : ∀ k, k ≠ n → (u.thing k).ty = (s.thing k).ty := fun k hk => by
  by_cases e : k = r
  ·subst e; rw [htr, hR1, hr1]
  ·rw [hte' k e hk]
 have hnto : ∀ k, s.non k → k ≠ to := by rintro k hk rfl; simp only [State.non] at hk; rw [hk] at hte; cases hte
 have hnon : ∀ k, s.non k → u.non k := fun k hk => by simp only [State.non, hel k (hnto k hk)]; exact hk
 have hno : ∀ k, u.non k → k = to ∨ (k ≠ to ∧ s.non k) := fun k hk => by
  by_cases e : k = to
  ·exact .inl e
  ·exact .inr ⟨e, by simp only [State.non, hel k e] at hk; exact hk⟩
 have hhas : ∀ k i, k ≠ n → tHas (u.thing k) i = tHas (s.thing k) i := fun k i hk => by
  by_cases e : k = r
  ·subst e; simp [tHas, htr, hR1, hr1]
  ·rw [hte' k e hk]
 have hn2 : ∀ i, tHas (s.thing n) i = false := fun i => by simp [tHas, hn0]
 have hlT := h.ok.lT
 have hTo : ∀ i : Nat, tHas T i = true → sOwner s i = -1 := fun i hi => (hTn (tHas_iff.1 hi).1).2 i hi
 have hcap : ∀ i, i < s.slots.length → s.non i → (s.slot i).cap.th.toNat ≠ n := fun i hi hin e => by
  have := h.capT i hi hin
  rw [e, hn0] at this
  have := non_ty h hi hin
  omega
 have hthere : ∀ t, t.toNat ≠ n → sThere u t = sThere s t := fun t ht => by simp only [sThere, hty _ ht, hT]
 refine ⟨by rw [hg]; exact h.geo, by rw [hS, hg]; exact h.lenS, by rw [hT, hg]; exact h.lenT, fun i hi => ?_, fun i hi hin => ?_, fun i hi hin => ?_, fun k hk => ?_, fun k hk h0 => ?_, fun k hk hrb => ?_, fun k hk hrb hk0 => ?_, fun k hk => ?_, ?_, fun i hi hin => ?_, ?_,
  fun i hi hin => ?_, ?_, fun i hi hin h0 => ?_⟩
 ·by_cases e : i = to
  ·subst e; rw [hto]
   simp [cGood, inB, hT2, hT3, rGood, rBadge]; right; omega
  ·rw [hel i e]; exact h.capG i (hS ▸ hi)
 ·by_cases e : i = to
  ·subst e; rw [hto] at hin; simp [cNone] at hin
  ·rw [hel i e] at hin ⊢; exact h.upN i (hS ▸ hi) hin
 ·rcases hno i hin with rfl | ⟨e, hin'⟩
  ·rw [hto]
   simp only [Int.toNat_natCast, htn]
   exact ⟨by rw [there_iff, Int.toNat_natCast, htn, hT]; omega, trivial⟩
  ·rw [hel i e]
   have hc := hcap i (hS ▸ hi) hin'
   rw [hthere _ hc, hty _ hc]; exact h.capT i (hS ▸ hi) hin'
 ·by_cases e : k = r
  ·subst e; rw [htr]; exact hR3
  ·by_cases e' : k = n
   ·subst e'; rw [htn]; exact hT1
   ·rw [hte' k e e']; exact h.tGood k (hT ▸ hk)
 ·have key : (s.thing k).from_ = (u.thing k).from_ ∨ (u.thing k).from_ = 0 := by
   by_cases e : k = r
   ·subst e; rw [htr, hR2]; exact .inl rfl
   ·by_cases e' : k = n
    ·subst e'; rw [htn]; exact .inr hT4
    ·rw [hte' k e e']; exact .inl rfl
  rcases key with e | e
  ·rw [← e] at h0 ⊢
   have := h.from_ k (hT ▸ hk) h0
   exact ⟨by omega, hnon _ this.2⟩
  ·omega
 ·have hrb' : rootB s k = true := by simpa only [rootB, hg] using hrb
  have h1 := h.root k (hT ▸ hk) hrb'
  have e : k ≠ r := by rintro rfl; rw [h1] at hr1; simp [rootT] at hr1
  have e' : k ≠ n := by rintro rfl; rw [h1] at hn0; simp [rootT] at hn0
  rw [hte' k e e', hg]; exact h1
 ·by_cases e : k = n
  ·subst e
   exact ⟨to, hS ▸ ht, by simp only [State.non, hto]; simp [cNone], by rw [hto]⟩
  ·rw [hty k e] at hk0
   obtain ⟨i, a, b, c⟩ := h.held k (hT ▸ hk) (by simpa only [rootB, hg] using hrb) hk0
   exact ⟨i, hS ▸ a, hnon i b, by rw [hel i (hnto i b)]; exact c⟩
 ·intro h2
  by_cases e : k = n
  ·subst e; rw [htn] at h2 ⊢; rw [hS]; exact (hTn h2).1
  ·by_cases e' : k = r
   ·subst e'; rw [htr, hR1] at h2; cases h2
   ·rw [hte' k e' e] at h2 ⊢; rw [hS]; exact h.fit k (hT ▸ hk) h2
 ·intro a ha b hb i h1 h2
  by_cases e : a = n
  ·subst e
   rw [htn] at h1
   rw [hhas b i (by omega)] at h2
   have := owner_none (hTo i h1) (n := b) (by omega)
   rw [this] at h2; cases h2
  ·by_cases e' : b = n
   ·subst e'
    rw [htn] at h2
    rw [hhas a i e] at h1
    have := owner_none (hTo i h2) (n := a) (by omega)
    rw [this] at h1; cases h1
   ·rw [hhas a i e] at h1
    rw [hhas b i e'] at h2
    exact h.apart a (hT ▸ ha) b hb i h1 h2
 ·have key : ∃ k, k < s.things.length ∧ tHas (s.thing k) i = true := by
   rcases hno i hin with rfl | ⟨e, hin'⟩
   ·exact ho
   ·exact h.has i (hS ▸ hi) hin'
  obtain ⟨k, a, b⟩ := key
  refine ⟨k, hT ▸ a, ?_⟩
  rw [hhas k i (by rintro rfl; rw [hn2] at b; cases b)]; exact b
 ·refine ring_add (o := sOwner s to) (t := n) h.ring hT (fun a b e => ?_) ?_
  ·obtain ⟨n0, i, hi, a1, b1, d1, rfl⟩ := e
   rw [hS] at hi
   have hown : s.non i ∨ i = to → ¬ tHas T i = true := by
    intro hh hT'
    have := hTo i hT'
    have hk : ∃ k, k < s.things.length ∧ tHas (s.thing k) i = true := by
     rcases hh with hh | rfl
     ·exact h.has i hi hh
     ·exact ho
    obtain ⟨k, k1, k2⟩ := hk
    have := owner_none this k1
    rw [this] at k2; cases k2
   by_cases e : i = to
   ·subst e
    right
    have han : a.toNat ≠ n := by
     intro e; rw [e, htn] at b1; exact hown (.inr rfl) b1
    rw [hhas _ _ han] at b1
    rw [hto]
    refine ⟨?_, rfl⟩
    rw [owner_eq h.apart (has_lt b1) b1]; omega
   ·left
    rw [hel i e] at a1 d1 ⊢
    have hin : s.non i := non_of (by omega)
    have han : a.toNat ≠ n := by
     intro e; rw [e, htn] at b1; exact hown (.inl hin) b1
    rw [hhas _ _ han] at b1
    exact ⟨n0, i, hi, a1, b1, (h.capT i hi hin).1, rfl⟩
  ·intro rr
   have : ∀ {x y : Int}, Reach s x y → x = n → y = n := by
    intro x y rr
    induction rr with
    | refl => exact id
    | step e _ ih =>
     intro hx
     obtain ⟨_, i, _, _, b, _⟩ := e
     rw [hx, Int.toNat_natCast, hn2] at b; cases b
   have := this rr rfl
   obtain ⟨k, k1, k2⟩ := ho
   rw [owner_eq h.apart k1 k2] at this
   have : k = n := by omega
   subst this
   rw [hn2] at k2; cases k2
 ·rcases hno i hin with rfl | ⟨e, hin'⟩
  ·rw [hto]; exact .inr ⟨by simp, by simp; omega, by simpa using hnon fr hfn⟩
  ·rw [hel i e]
   rcases h.up i (hS ▸ hi) hin' with h1 | ⟨h1, h2, h3⟩
   ·exact .inl h1
   ·exact .inr ⟨h1, by omega, hnon _ h3⟩
 ·obtain ⟨q, hq⟩ := h.rank
  refine ⟨fun k => if k = to then q fr + 1 else q k, fun i hi hin h0 => ?_⟩
  rcases hno i hin with rfl | ⟨e, hin'⟩
  ·rw [hto]; simp [hne]
  ·rw [hel i e] at h0 ⊢
   have h4 := hq i (hS ▸ hi) hin' h0
   have h5 : (s.slot i).up.toNat ≠ to := by
    rcases h.up i (hS ▸ hi) hin' with h1 | ⟨h1, h2, h3⟩
    ·omega
    ·exact hnto _ h3
   simp only [if_neg h5, if_neg e]; exact h4
 ·rcases hno i hin with rfl | ⟨e, hin'⟩
  ·rw [hto]; simp only [Int.toNat_natCast]; rw [hel fr hne]; exact .inr ⟨hfr1, by rw [hfr2]; omega⟩
  ·rw [hel i e] at h0 ⊢
   have h5 : (s.slot i).up.toNat ≠ to := by
    rcases h.up i (hS ▸ hi) hin' with h1 | ⟨h1, h2, h3⟩
    ·omega
    ·exact hnto _ h3
   rw [hel _ h5]; exact h.allow i (hS ▸ hi) hin' h0
theorem usedX_ok {s : State} {fr : Int} (h : Inv s) (h0 : 0 ≤ fr) (h1 : fr < s.slots.length) (h2 : (s.slot fr.toNat).cap.ty = 1) : 0 ≤ usedX s fr ∧ usedX s fr ≤ 4096 := by
 have hn : s.non fr.toNat := non_of (by omega)
 have ht := h.capT fr.toNat (by omega) hn
 rw [there_iff] at ht
 have hg := h.tGood _ (show (s.slot fr.toNat).cap.th.toNat < s.things.length by omega)
 have hty : (s.thing (s.slot fr.toNat).cap.th.toNat).ty = 1 := by rw [ht.2, h2]
 simp [M.tGood, hty, inB] at hg
 simp only [usedX]
 cases (!sGood s || (decide (fr < 0) || (decide ((s.slots.length : Int) ≤ fr) || !decide ((s.slot fr.toNat).cap.ty = 1)))) with
 | true => simp
 | false =>
  cases decide (((fKids (sForest s) fr).length : Int) = 0) with
  | true => simp
  | false => simp only [cond_false]; omega
theorem carveM_some {s : State} {th : Int} {c : Call} {y : State} (h : (carveM s th c).st = some y) : callGood c = true ∧ c.op = 1 ∧ (fCap s th c.a).2.2 = 0 ∧ (fCap s th c.a).2.1.ty = 1 ∧ (fEmpty s th c.b).2 = 0 ∧ (tCost c.x c.y).2 = true ∧ (carveN c s).2 = true ∧ 0 ≤ sFree s ∧
 usedX s (fCap s th c.a).1 + (tCost c.x c.y).1 ≤ (s.thing (fCap s th c.a).2.1.th.toNat).size ∧ carveM s th c = ⟨0, 0, sFree s, some y⟩ ∧
 y = carveS s c (fCap s th c.a).1 (fEmpty s th c.b).1 (usedX s (fCap s th c.a).1 + (tCost c.x c.y).1) (sFree s) (carveN c s).1 (fCap s th c.a).2.1 := by
 simp only [carveM] at h ⊢
 cases h1 : (!callGood c || !decide (c.op = 1)) with
 | true => simp [h1, Res.bad] at h
 | false =>
 simp only [h1, cond_false] at h ⊢
 cases h2 : decide ((fCap s th c.a).2.2 = 0) with
 | false => simp [h2, Res.bad] at h
 | true =>
 simp only [h2, Bool.not_true, cond_false] at h ⊢
 cases h3 : decide ((fCap s th c.a).2.1.ty = 1) with
 | false => simp [h3, Res.bad] at h
 | true =>
 simp only [h3, Bool.not_true, cond_false] at h ⊢
 cases h4 : rWithin 2 (fCap s th c.a).2.1.ri with
 | false => simp [h4, Res.bad] at h
 | true =>
 simp only [h4, Bool.not_true, cond_false] at h ⊢
 cases h5 : decide ((fEmpty s th c.b).2 = 0) with
 | false => simp [h5, Res.bad] at h
 | true =>
 simp only [h5, Bool.not_true, cond_false] at h ⊢
 cases h6 : (tCost c.x c.y).2 with
 | false => simp [h6, Res.bad] at h
 | true =>
 simp only [h6, Bool.not_true, cond_false] at h ⊢
 simp only [carveIn] at h ⊢
 cases h7 : (decide ((s.thing (fCap s th c.a).2.1.th.toNat).size < usedX s (fCap s th c.a).1 + (tCost c.x c.y).1) || (!(carveN c s).2 || decide (sFree s < 0))) with
 | true => simp [h7, Res.bad] at h
 | false =>
 simp only [h7, cond_false, Option.some.injEq] at h ⊢
 simp at h1 h2 h3 h5 h7
 exact ⟨h1.1, h1.2, h2, h3, h5, trivial, h7.2.1, by omega, by omega, by rw [h], h.symm⟩
theorem carveM_bad {s : State} {th : Int} {c : Call} (h : (carveM s th c).st = none) : ∃ e, e ≠ 0 ∧ carveM s th c = .bad e := by
 simp only [carveM] at h ⊢
 cases h1 : (!callGood c || !decide (c.op = 1)) with
 | true => exact ⟨1, by decide, rfl⟩
 | false =>
 simp only [h1, cond_false] at h ⊢
 cases h2 : decide ((fCap s th c.a).2.2 = 0) with
 | false => exact ⟨_, by simpa using h2, rfl⟩
 | true =>
 simp only [h2, Bool.not_true, cond_false] at h ⊢
 cases h3 : decide ((fCap s th c.a).2.1.ty = 1) with
 | false => exact ⟨7, by decide, rfl⟩
 | true =>
 simp only [h3, Bool.not_true, cond_false] at h ⊢
 cases h4 : rWithin 2 (fCap s th c.a).2.1.ri with
 | false => exact ⟨6, by decide, rfl⟩
 | true =>
 simp only [h4, Bool.not_true, cond_false] at h ⊢
 cases h5 : decide ((fEmpty s th c.b).2 = 0) with
 | false => exact ⟨_, by simpa using h5, rfl⟩
 | true =>
 simp only [h5, Bool.not_true, cond_false] at h ⊢
 cases h6 : (tCost c.x c.y).2 with
 | false => exact ⟨1, by decide, rfl⟩
 | true =>
 simp only [h6, Bool.not_true, cond_false] at h ⊢
 simp only [carveIn] at h ⊢
 cases h7 : (decide ((s.thing (fCap s th c.a).2.1.th.toNat).size < usedX s (fCap s th c.a).1 + (tCost c.x c.y).1) || (!(carveN c s).2 || decide (sFree s < 0))) with
 | true => exact ⟨8, by decide, rfl⟩
 | false => simp [h7] at h
theorem carveM_none {s : State} {th : Int} {c : Call} (h : (carveM s th c).st = none) : (carveM s th c).err ≠ 0 := by
 obtain ⟨e, he, h2⟩ := carveM_bad h
 rw [h2]; exact he
theorem sFree_ok {s : State} (h : 0 ≤ sFree s) : (sFree s).toNat < s.things.length ∧ (s.thing (sFree s).toNat).ty = 0 := by
 simp only [sFree] at h ⊢
 cases hg : sGood s with
 | false => rw [hg] at h; simp at h
 | true =>
  rw [hg] at h
  simp only [cond_true] at h ⊢
  rcases findI_spec (fun k => decide ((s.thing k).ty = 0)) s.things.length with ⟨h0, _⟩ | ⟨k, hk, h1, _, h3⟩
  ·omega
  ·rw [h3]; simp at h1 ⊢; exact ⟨hk, h1⟩
theorem carve_makes {s : State} {th : Int} {c : Call} {y : State} (h : (carveM s th c).st = some y) : ∃ T R, Makes s y (fCap s th c.a).1.toNat (fEmpty s th c.b).1.toNat (sFree s).toNat (fCap s th c.a).2.1.th.toNat T R ∧
 R = { s.thing (fCap s th c.a).2.1.th.toNat with used := usedX s (fCap s th c.a).1 + (tCost c.x c.y).1 } ∧ T.ty = c.x := by
 obtain ⟨g1, gop, g2, g3, g4, g5, g6, g7, g8, g9, g10⟩ := carveM_some h
 obtain ⟨inv, a1, a2, a3, a4, a5⟩ := fCap_ok g2
 obtain ⟨_, b1, b2, b3, b4, b5⟩ := fEmpty_ok g4
 obtain ⟨n1, n2⟩ := sFree_ok g7
 have ht := inv.capT _ (by omega) a4
 rw [a3] at g3 g8 g10 ⊢
 rw [there_iff] at ht
 have hr : (s.slot (fCap s th c.a).1.toNat).cap.th.toNat < s.things.length := by omega
 have hr1 : (s.thing (s.slot (fCap s th c.a).1.toNat).cap.th.toNat).ty = 1 := by rw [ht.2, g3]
 have hgR := inv.tGood _ hr
 have hne : (sFree s).toNat ≠ (s.slot (fCap s th c.a).1.toNat).cap.th.toNat := by intro e; rw [e] at n2; omega
 have hu := usedX_ok inv a1 a2 g3
 have en : (((sFree s).toNat : Nat) : Int) = sFree s := by omega
 have ef : (((fCap s th c.a).1.toNat : Nat) : Int) = (fCap s th c.a).1 := by omega
 have hcost : 0 ≤ (tCost c.x c.y).1 := by
  simp only [tCost] at g5 ⊢
  by_cases e1 : c.x = 1
  ·simp only [e1, decide_true, cond_true] at g5 ⊢
   cases hb : inB c.y 1 4096 with
   | false => simp
   | true => rw [inB_iff] at hb; simp only [cond_true]; omega
  ·simp only [e1, decide_false, cond_false] at g5 ⊢
   by_cases e2 : c.x = 2
   ·simp only [e2, decide_true, cond_true] at g5 ⊢
    cases hb : inB c.y 1 4 with
    | false => simp
    | true => have := p2_bits hb; simp only [cond_true]; omega
   ·simp only [e2, decide_false, cond_false] at g5 ⊢
    cases (decide (c.x = 3) || decide (c.x = 4)) <;> cases decide (c.x = 5) <;> simp
 -- the new thing
 have hx : (tNew c.x c.y (carveN c s).1).1 = tOfKind c.x c.y (carveN c s).1 ∧ tGood (tOfKind c.x c.y (carveN c s).1) = true ∧ (tOfKind c.x c.y (carveN c s).1).ty = c.x ∧ 1 ≤ c.x ∧ c.x ≤ 5 ∧ (tOfKind c.x c.y (carveN c s).1).from_ = 0 ∧
  (c.x = 2 → (tOfKind c.x c.y (carveN c s).1).base + p2 (tOfKind c.x c.y (carveN c s).1).bits ≤ s.slots.length ∧ ∀ i : Nat, tHas (tOfKind c.x c.y (carveN c s).1) i = true → sOwner s i = -1) := by
  have hS := inv.ok.lS
  have hk : c.x = 1 ∨ c.x = 2 ∨ c.x = 3 ∨ c.x = 4 ∨ c.x = 5 := by
   simp only [tCost] at g5
   by_cases e1 : c.x = 1
   ·exact .inl e1
   ·by_cases e2 : c.x = 2
    ·exact .inr (.inl e2)
    ·by_cases e3 : c.x = 3
     ·simp [e3]
     ·by_cases e4 : c.x = 4
      ·simp [e4]
      ·by_cases e5 : c.x = 5
       ·simp [e5]
       ·simp [e1, e2, e3, e4, e5] at g5
  rcases hk with e | e | e | e | e
  ·simp only [tCost, e, decide_true, cond_true] at g5
   cases hb : inB c.y 1 4096 with
   | false => simp [hb] at g5
   | true =>
    rw [inB_iff] at hb
    have hg : M.tGood (tOfKind 1 c.y (carveN c s).1) = true := by simp [M.tGood, tOfKind, tOwn, tEq, Thing.zero, inB]; omega
    rw [e]
    refine ⟨by simp [tNew, hg], hg, by simp [tOfKind, Thing.zero], by decide, by decide, by simp [tOfKind, Thing.zero], fun h => by omega⟩
  ·simp only [tCost, e, show decide ((2 : Int) = 1) = false from rfl, cond_false, decide_true, cond_true] at g5
   cases hb : inB c.y 1 4 with
   | false => simp [hb] at g5
   | true =>
    have hp := p2_bits hb
    have hgap : gapGo s (p2 c.y) s.slots.length 0 0 = ((carveN c s).1, true) := by
     have hb' := hb
     rw [inB_iff] at hb'
     simp only [carveN, e, decide_true, cond_true] at g6 ⊢
     simp only [sGap, inv.ok.good, hb'.1, hb'.2, decide_true, Bool.and_self, cond_true] at g6 ⊢
     exact Prod.ext rfl g6
    have hs := gap_spec (b := (carveN c s).1) s.slots.length 0 0 (by omega) (by omega) (fun j h1 h2 => by omega) hgap
    have hbi := hb
    rw [inB_iff] at hbi
    have hg : M.tGood (tOfKind 2 c.y (carveN c s).1) = true := by simp [M.tGood, tOfKind, tOwn, tEq, Thing.zero, inB]; omega
    rw [e]
    refine ⟨by simp [tNew, hg], hg, by simp [tOfKind, Thing.zero], by decide, by decide, by simp [tOfKind, Thing.zero], fun _ => ⟨by simp [tOfKind, Thing.zero]; omega, fun i hi => ?_⟩⟩
    rw [tHas_iff] at hi
    simp [tOfKind, Thing.zero] at hi
    exact hs.2.2 i (by omega) (by omega)
  all_goals
   rw [e]
   have hg : M.tGood (tOfKind c.x c.y (carveN c s).1) = true := by rw [e]; simp [M.tGood, tOfKind, tOwn, tEq, Thing.zero, inB]
   rw [e] at hg
   exact ⟨by simp [tNew, hg], hg, by simp [tOfKind, Thing.zero], by decide, by decide, by simp [tOfKind, Thing.zero], fun h => by omega⟩
 obtain ⟨x1, x2, x3, x4, x5, x6, x7⟩ := hx
 have hxn : ∀ k, (y.thing k) = if k = (s.slot (fCap s th c.a).1.toNat).cap.th.toNat then { s.thing (s.slot (fCap s th c.a).1.toNat).cap.th.toNat with used := usedX s (fCap s th c.a).1 + (tCost c.x c.y).1 } else if k = (sFree s).toNat then tOfKind c.x c.y (carveN c s).1 else s.thing k := by
  intro k
  rw [g10]
  have e1 := thing_set (s := { s with things := s.things.set (sFree s).toNat (tNew c.x c.y (carveN c s).1).1 }) (i := (s.slot (fCap s th c.a).1.toNat).cap.th.toNat) (k := k) (x := { ((s.things.set (sFree s).toNat (tNew c.x c.y (carveN c s).1).1).getD (s.slot (fCap s th c.a).1.toNat).cap.th.toNat .zero) with used := usedX s (fCap s th c.a).1 + (tCost c.x c.y).1 }) (by simpa using hr)
  have e2 := fun k => thing_set (s := s) (i := (sFree s).toNat) (k := k) (x := (tNew c.x c.y (carveN c s).1).1) n1
  have e3 : (carveS s c (fCap s th c.a).1 (fEmpty s th c.b).1 (usedX s (fCap s th c.a).1 + (tCost c.x c.y).1) (sFree s) (carveN c s).1 (s.slot (fCap s th c.a).1.toNat).cap).thing k = _ := e1
  rw [e3, e2 k, x1]
  have e4 : (s.things.set (sFree s).toNat (tOfKind c.x c.y (carveN c s).1)).getD (s.slot (fCap s th c.a).1.toNat).cap.th.toNat .zero = s.thing (s.slot (fCap s th c.a).1.toNat).cap.th.toNat := by
   have := e2 (s.slot (fCap s th c.a).1.toNat).cap.th.toNat
   rw [if_neg (Ne.symm hne), x1] at this; exact this
  rw [e4]
 refine ⟨tOfKind c.x c.y (carveN c s).1, _, ⟨inv, by rw [g10]; rfl, by rw [g10]; simp [carveS], by rw [g10]; simp [carveS], fun k => ?_, hxn, by omega, by omega, n1, hr, n2, hr1, ⟨hr1, rfl, ?_⟩, ⟨x2, by omega, by omega, x6⟩, fun h => x7 (by omega), ⟨g3, by omega⟩, b3, ?_⟩, rfl, x3⟩
 ·rw [g10]
  have := slot_set (s := s) (i := (fEmpty s th c.b).1.toNat) (k := k) (x := ⟨⟨c.x, sFree s, 7, 0⟩, (fCap s th c.a).1⟩) (by omega)
  rw [x3, en, ef]; exact this
 ·have ho : tOwn (s.thing (s.slot (fCap s th c.a).1.toNat).cap.th.toNat) = s.thing (s.slot (fCap s th c.a).1.toNat).cap.th.toNat := by simp [M.tGood] at hgR; exact tEq_iff.1 hgR.1
  generalize s.thing (s.slot (fCap s th c.a).1.toNat).cap.th.toNat = t at *
  have e : { t with used := usedX s (fCap s th c.a).1 + (tCost c.x c.y).1 } = { Thing.zero with ty := 1, size := t.size, used := usedX s (fCap s th c.a).1 + (tCost c.x c.y).1 } := by
   rw [← ho]; simp [tOwn, hr1, Thing.zero]
  rw [e]
  simp [M.tGood, hr1, inB] at hgR
  simp [M.tGood, tOwn, tEq, Thing.zero, inB]
  omega
 ·rw [show (((fEmpty s th c.b).1.toNat : Nat) : Int) = (fEmpty s th c.b).1 by omega]; exact b4
end Go.Ax.M
namespace Go.Ax.M
open Go Go.Ax
section
variable {badge rights other : Int}
end
end Go.Ax.M
namespace Go.Ax.M
open Go Go.Ax
theorem held_of {s : State} {t k : Nat} (hk : k < s.slots.length) (hn : s.non k) (h : (s.slot k).cap.th = t) : heldB s t = true := by
 simp only [heldB, Bool.not_eq_true']
 rw [List.all_eq_false]
 refine ⟨k, List.mem_range.2 hk, ?_⟩
 simp only [State.non] at hn
 simp only [holdB, hn, h, Bool.not_false, decide_true, Bool.and_self, Bool.not_true]
 simp
end Go.Ax.M
namespace Go.Ax.M
open Go Go.Ax
def kinds (u : State) : Nat := (u.things.map (·.ty)).countP fun y => !decide (y = 0)
def BitsOk (u : State) : Prop := ∀ x ∈ u.things, 0 ≤ x.bits ∧ x.bits ≤ 4 ∧ 0 ≤ x.base ∧ x.base ≤ 96
theorem BitsOk.at {u : State} (h : BitsOk u) {t : Nat} (ht : t < u.things.length) : 0 ≤ (u.thing t).bits ∧ (u.thing t).bits ≤ 4 ∧ 0 ≤ (u.thing t).base ∧ (u.thing t).base ≤ 96 := by
 have e : u.thing t = u.things[t] := by simp [State.thing, List.getD, ht]
 rw [e]; exact h _ (List.getElem_mem ht)
theorem bits_good {s : State} (h : Inv s) : BitsOk s := by
 intro x hx
 obtain ⟨t, ht, rfl⟩ := List.getElem_of_mem hx
 have e : s.thing t = s.things[t] := by simp [State.thing, List.getD, ht]
 rw [← e]
 have hg := h.tGood t ht
 by_cases h2 : (s.thing t).ty = 2
 ·have := tGood_node hg h2
  have hp := p2_bits this.1
  simp [inB] at this
  omega
 ·have : tOwn (s.thing t) = s.thing t := by simp [M.tGood] at hg; exact tEq_iff.1 hg.1
  have hb : (tOwn (s.thing t)).bits = 0 ∧ (tOwn (s.thing t)).base = 0 := by
   simp only [tOwn, h2, decide_false, cond_false]
   cases decide ((s.thing t).ty = 1) <;> cases decide ((s.thing t).ty = 3) <;> cases (s.thing t).full <;> cases decide ((s.thing t).ty = 4) <;> cases decide ((s.thing t).ty = 5) <;> exact ⟨rfl, rfl⟩
  rw [this] at hb
  omega
theorem emptyS_tys {s : State} {i : Int} : (emptyS s i).things.map (·.ty) = s.things.map (·.ty) := by
 simp only [emptyS, List.map_map]
 apply List.map_congr_left
 intro x _
 simp only [Function.comp, emptyTh]; split <;> rfl
theorem emptyS_bits {s : State} {i : Int} (h : BitsOk s) : BitsOk (emptyS s i) := by
 intro x hx
 simp only [emptyS, List.mem_map] at hx
 obtain ⟨y, hy, rfl⟩ := hx
 have := h y hy
 simp only [emptyTh]; split <;> exact this
theorem empties_keep {l : List Int} : ∀ (s : State) (n : Int), (empties s n l).1.things.map (·.ty) = s.things.map (·.ty) ∧ (BitsOk s → BitsOk (empties s n l).1) := by
 induction l with
 | nil => exact fun s n => ⟨rfl, id⟩
 | cons i l ih =>
  intro s n
  have e : empties s n (i :: l) = empties (emptyE (s, n) i).1 (emptyE (s, n) i).2 l := rfl
  rw [e]
  have := ih (emptyE (s, n) i).1 (emptyE (s, n) i).2
  have h2 : (emptyE (s, n) i).1.things.map (·.ty) = s.things.map (·.ty) ∧ (BitsOk s → BitsOk (emptyE (s, n) i).1) := by
   simp only [emptyE]
   cases emptyB s i with
   | false => exact ⟨rfl, id⟩
   | true => exact ⟨emptyS_tys, emptyS_bits⟩
  exact ⟨this.1.trans h2.1, fun h => this.2 (h2.2 h)⟩
theorem empties_lens {l : List Int} : ∀ (s : State) (n : Int), (empties s n l).1.slots.length = s.slots.length ∧ (empties s n l).1.things.length = s.things.length ∧ (empties s n l).1.geo = s.geo ∧ n ≤ (empties s n l).2 ∧ (empties s n l).2 ≤ n + l.length := by
 induction l with
 | nil => exact fun s n => ⟨rfl, rfl, rfl, Int.le_refl _, by simp [empties]⟩
 | cons i l ih =>
  intro s n
  have e : empties s n (i :: l) = empties (emptyE (s, n) i).1 (emptyE (s, n) i).2 l := rfl
  rw [e]
  have := ih (emptyE (s, n) i).1 (emptyE (s, n) i).2
  have h2 : (emptyE (s, n) i).1.slots.length = s.slots.length ∧ (emptyE (s, n) i).1.things.length = s.things.length ∧ (emptyE (s, n) i).1.geo = s.geo ∧ n ≤ (emptyE (s, n) i).2 ∧ (emptyE (s, n) i).2 ≤ n + 1 := by
   simp only [emptyE]; cases emptyB s i <;> simp [emptyS] <;> omega
  simp only [List.length_cons]
  refine ⟨this.1.trans h2.1, this.2.1.trans h2.2.1, this.2.2.1.trans h2.2.2.1, by omega, by omega⟩
structure Less (s u : State) : Prop where
 lS : u.slots.length = s.slots.length
 lT : u.things.length = s.things.length
 geo : u.geo = s.geo
 bits : BitsOk s → BitsOk u
theorem Less.refl (s : State) : Less s s := ⟨rfl, rfl, rfl, id⟩
theorem Less.trans {s u v : State} (a : Less s u) (b : Less u v) : Less s v := ⟨b.lS.trans a.lS, b.lT.trans a.lT, b.geo.trans a.geo, fun h => b.bits (a.bits h)⟩
theorem empties_less {s : State} {n : Int} {l : List Int} : Less s (empties s n l).1 :=
 ⟨(empties_lens s n).1, (empties_lens s n).2.1, (empties_lens s n).2.2.1, (empties_keep s n).2⟩
theorem nodeL_length {x : Thing} (h : 0 ≤ x.bits ∧ x.bits ≤ 4) : (nodeL x).length ≤ 16 := by
 simp only [nodeL]
 cases hd : decide (x.ty = 2) with
 | false => simp
 | true =>
  simp only [cond_true, List.length_map, List.length_range]
  have : x.bits = 0 ∨ x.bits = 1 ∨ x.bits = 2 ∨ x.bits = 3 ∨ x.bits = 4 := by omega
  rcases this with e | e | e | e | e <;> (rw [e]; simp [p2])
theorem lost_less {s : State} {t : Nat} (h : lostB s t = true) (ht : t < s.things.length) : Less s (lostS s t).1 ∧ kinds (lostS s t).1 + 1 ≤ kinds s ∧ 0 ≤ (lostS s t).2 ∧ (BitsOk s → (lostS s t).2 ≤ 16) := by
 have el := empties_less (s := s) (n := 0) (l := nodeL (s.thing t))
 have ek := (empties_keep (l := nodeL (s.thing t)) s 0).1
 have en := empties_lens (l := nodeL (s.thing t)) s 0
 refine ⟨⟨el.lS, by simp only [lostS, List.length_set]; exact el.lT, el.geo, fun hb x hx => ?_⟩, ?_, by simp only [lostS]; omega, fun hb => ?_⟩
 ·simp only [lostS] at hx
  rcases List.mem_or_eq_of_mem_set hx with h | rfl
  ·exact el.bits hb x h
  ·simp [Thing.zero]
 ·have hty : (s.thing t).ty ≠ 0 := by
   simp [lostB] at h; exact h.1
  have e : (s.things.map (·.ty))[t]'(by simp; exact ht) = (s.thing t).ty := by simp [State.thing, List.getD, ht]
  simp only [kinds, lostS, List.map_set, ek]
  rw [List.countP_set (by simp; exact ht), e]
  have hpos : 0 < (s.things.map (·.ty)).countP fun y => !decide (y = 0) := by
   rw [List.countP_pos_iff]
   exact ⟨(s.thing t).ty, by rw [← e]; exact List.getElem_mem _, by simp [hty]⟩
  simp only [hty, decide_false, Bool.not_false, if_true, Thing.zero, decide_true, Bool.not_true, Bool.false_eq_true, if_false]
  omega
 ·simp only [lostS]
  have := nodeL_length (x := s.thing t) ⟨(hb.at ht).1, (hb.at ht).2.1⟩
  omega
def rounds (u : State) (n : Int) (k : Nat) : State × Int × Bool := (List.range k).foldl lostE (u, n, false)
theorem round_zero {u : State} {n : Int} : rounds u n 0 = (u, n, false) := rfl
theorem round_succ {u : State} {n : Int} {k : Nat} : rounds u n (k + 1) = lostE (rounds u n k) k := by simp [rounds, List.range_succ, List.foldl_append]
theorem round_less {u : State} {n : Int} (hb : BitsOk u) : ∀ k, k ≤ u.things.length → Less u (rounds u n k).1 ∧ (kinds (rounds u n k).1 + bif (rounds u n k).2.2 then 1 else 0) ≤ kinds u ∧ n ≤ (rounds u n k).2.1 ∧ (rounds u n k).2.1 ≤ n + 16 * k
 | 0, _ => by simp [round_zero, Less.refl]
 | k + 1, hk => by
  obtain ⟨a, b, c, d⟩ := round_less hb k (by omega)
  rw [round_succ]
  generalize rounds u n k = p at *
  obtain ⟨v, m, f⟩ := p
  simp only at a b c d
  simp only [lostE]
  cases hl : lostB v k with
  | false => simp only [cond_false]; exact ⟨a, b, c, by omega⟩
  | true =>
   simp only [cond_true]
   obtain ⟨x, y, z, w⟩ := lost_less hl (by rw [a.lT]; omega)
   have w := w (a.bits hb)
   refine ⟨a.trans x, ?_, by omega, by omega⟩
   cases f <;> simp at b ⊢ <;> omega
theorem pass_rounds {u : State} {n : Int} : pass u n = rounds u n u.things.length := rfl
theorem kinds_le {u : State} : kinds u ≤ u.things.length := by
 simp only [kinds]
 refine Nat.le_trans List.countP_le_length ?_
 simp
end Go.Ax.M
namespace Go.Ax.M
open Go Go.Ax
def bh (up : List Int) : Nat → List Int → List Int
 | 0, _ => []
 | n + 1, l => l.flatMap fun i => i :: bh up n (fOf up i)
def Deep (up : List Int) : Nat → List Int → Prop
 | 0, l => l = []
 | n + 1, l => ∀ i ∈ l, Deep up n (fOf up i)
def fBelowS (up : List Int) (i : Int) : List Int := bif fMay up i then sortedI (bh up (up.length + 2) (fOf up i)) else []
section
variable {up : List Int}
theorem fOf_mem {i k : Int} : k ∈ fOf up i ↔ 0 ≤ k ∧ k < up.length ∧ up.getD k.toNat 0 = i := by
 unfold fOf
 simp only [pick, List.mem_map, List.mem_filter, List.mem_range, decide_eq_true_eq]
 constructor
 ·rintro ⟨a, ⟨h1, h2⟩, rfl⟩
  exact ⟨by simp, by simpa using h1, by simpa using h2⟩
 ·rintro ⟨h0, h1, h2⟩
  exact ⟨k.toNat, ⟨by omega, h2⟩, by simp; omega⟩
theorem fOf_nodup {i : Int} : (fOf up i).Nodup := by
 unfold fOf
 simp only [pick]
 refine List.Pairwise.map _ (fun a b h => ?_) (List.Pairwise.filter _ List.nodup_range)
 intro e; exact h (Int.ofNat.inj e)
theorem ends_mono : ∀ (n m : Nat) (a : Int), n ≤ m → fEnds up n a = true → fEnds up m a = true := by
 intro n
 induction n with
 | zero =>
  intro m a _ h
  cases m with
  | zero => exact h
  | succ m => simp only [fEnds] at h ⊢; rw [h]; rfl
 | succ n ih =>
  intro m a hm h
  cases m with
  | zero => omega
  | succ m =>
   simp only [fEnds, Bool.or_eq_true] at h ⊢
   exact h.imp id (ih m _ (by omega))
theorem deep_of {N : Nat} (hN : ∀ k : Nat, k < up.length → fEnds up N (k : Int) = true) : ∀ (n d : Nat) (l : List Int), N ≤ d + n → (∀ i ∈ l, fIs up i = true ∧ fEnds up d i = false) → Deep up n l
 | 0, d, l, hd, h => by
  cases l with
  | nil => rfl
  | cons i l =>
   exfalso
   obtain ⟨h1, h2⟩ := h i List.mem_cons_self
   simp [fIs] at h1
   have := ends_mono N d i (by omega) (by have := hN i.toNat (by omega); rwa [show ((i.toNat : Nat) : Int) = i by omega] at this)
   rw [h2] at this; cases this
 | n + 1, d, l, hd, h => by
  intro i hi
  obtain ⟨h1, h2⟩ := h i hi
  refine deep_of hN n (d + 1) _ (by omega) fun k hk => ?_
  obtain ⟨k0, k1, k2⟩ := fOf_mem.1 hk
  have hi0 : 0 ≤ i := by simp [fIs] at h1; omega
  have hk : fIs up k = true := by
   simp only [fIs, Bool.and_eq_true, decide_eq_true_eq, Bool.not_eq_true', decide_eq_false_iff_not]
   exact ⟨k0, k1, by rw [k2]; omega⟩
  exact ⟨hk, by simp only [fEnds, hk, k2, h2]; rfl⟩
theorem bh_append {n : Nat} {a b : List Int} : bh up n (a ++ b) = bh up n a ++ bh up n b := by
 cases n with
 | zero => rfl
 | succ n => simp [bh]
theorem bh_nil {n : Nat} : bh up n [] = [] := by cases n <;> rfl
theorem bh_cons {n : Nat} {i : Int} {l : List Int} : bh up (n + 1) (i :: l) = i :: (bh up n (fOf up i) ++ bh up (n + 1) l) := by simp [bh]
theorem bh_level {n : Nat} : ∀ l : List Int, (bh up (n + 1) l).length = l.length + (bh up n (l.flatMap (fOf up))).length
 | [] => by simp [bh_nil]
 | i :: l => by
  rw [bh_cons, List.length_cons, List.length_append, bh_level l, List.flatMap_cons, bh_append, List.length_append, List.length_cons]
  omega
theorem level_ok {l : List Int} (h : l.Nodup) (hr : ∀ i ∈ l, 0 ≤ i ∧ i < up.length) : (l.flatMap (fOf up)).Nodup ∧ ∀ i ∈ l.flatMap (fOf up), 0 ≤ i ∧ i < up.length := by
 refine ⟨?_, fun i hi => ?_⟩
 ·induction l with
  | nil => simp
  | cons i l ih =>
   rw [List.nodup_cons] at h
   rw [List.flatMap_cons, List.nodup_append]
   refine ⟨fOf_nodup, ih h.2 fun j hj => hr j (List.mem_cons_of_mem _ hj), fun a ha b hb e => ?_⟩
   subst e
   obtain ⟨j, hj, hb⟩ := List.mem_flatMap.1 hb
   have := (fOf_mem.1 ha).2.2.symm.trans (fOf_mem.1 hb).2.2
   subst this
   exact h.1 hj
 ·obtain ⟨a, ha, hi⟩ := List.mem_flatMap.1 hi
  obtain ⟨k0, k1, _⟩ := fOf_mem.1 hi
  exact ⟨k0, k1⟩
theorem nat_len : ∀ (n : Nat) (l : List Nat), l.Nodup → (∀ x ∈ l, x < n) → l.length ≤ n
 | 0, l, _, hr => by
  cases l with
  | nil => simp
  | cons a l => have := hr a List.mem_cons_self; omega
 | n + 1, l, h, hr => by
  have h1 := nat_len n (l.erase n) (h.erase n) fun x hx => by
   have := (h.mem_erase_iff).1 hx
   have := hr x this.2
   omega
  rw [List.length_erase] at h1
  split at h1 <;> omega
theorem nodup_len {n : Nat} {l : List Int} (h : l.Nodup) (hr : ∀ i ∈ l, 0 ≤ i ∧ i < (n : Int)) : l.length ≤ n := by
 have h1 : (l.map Int.toNat).Nodup := by
  rw [List.Nodup, List.pairwise_map]
  refine List.Pairwise.imp_of_mem (fun {a b} ha hb hab => ?_) h
  have := hr a ha; have := hr b hb
  intro e; exact hab (by omega)
 have := nat_len n _ h1 fun x hx => by
  obtain ⟨a, ha, rfl⟩ := List.mem_map.1 hx
  have := hr a ha
  omega
 simpa using this
theorem bh_len : ∀ (n : Nat) (l : List Int), l.Nodup → (∀ i ∈ l, 0 ≤ i ∧ i < up.length) → (bh up n l).length ≤ n * up.length
 | 0, l, _, _ => by simp [bh]
 | n + 1, l, h, hr => by
  rw [bh_level]
  have h1 := nodup_len h hr
  have h2 := level_ok h hr
  have h3 := bh_len n _ h2.1 h2.2
  rw [Nat.succ_mul]
  omega
theorem bh_part {n : Nat} {l : List Int} {i : Int} (hi : i ∈ l) : (bh up n (fOf up i)).length ≤ (bh up (n + 1) l).length := by
 induction l with
 | nil => simp at hi
 | cons a l ih =>
  rw [bh_cons, List.length_cons, List.length_append]
  rcases List.mem_cons.1 hi with rfl | h
  ·omega
  ·have := ih h; omega
theorem bh_self {n : Nat} {l : List Int} (h : Deep up n l) {x : Int} (hx : x ∈ l) : x ∈ bh up n l := by
 cases n with
 | zero => simp only [Deep] at h; subst h; simp at hx
 | succ n => simp only [bh, List.mem_flatMap]; exact ⟨x, hx, List.mem_cons_self⟩
theorem bh_some {n : Nat} {l : List Int} (h : Deep up n l) (hl : l ≠ []) : bh up n l ≠ [] := by
 obtain ⟨x, hx⟩ := List.exists_mem_of_ne_nil _ hl
 exact List.ne_nil_of_mem (bh_self h hx)
end
end Go.Ax.M
namespace Go.Ax.M
open Go Go.Ax
def takeN (s : State) (th : Int) (c : Call) : Res :=
 bif !callGood c || (!decide (c.op = 5) && !decide (c.op = 6)) then .bad 1
 else bif !decide ((fCap s th c.a).2.2 = 0) then .bad (fCap s th c.a).2.2
 else bif decide (c.op = 6) then ⟨0, 0, (takeE s (fBelowS (sForest s) (fCap s th c.a).1)).2, some (takeE s (fBelowS (sForest s) (fCap s th c.a).1)).1⟩
 else ⟨0, 0, (takeE s [(fCap s th c.a).1]).2, some (takeE s [(fCap s th c.a).1]).1⟩
end Go.Ax.M
namespace Go.Ax.M
open Go Go.Ax
def pathV : List Int → Int
 | [] => 0
 | a :: l => a + 16 * pathV l
def pathW (p : List Int) : Int := (p.length : Int) + 16 * pathV p
def digs (w : Int) (k : Nat) : List Int := (List.range k).map fun i => w / 2 ^ (4 * (i + 1)) % 16
def pNum (w : Int) : Nat := min (w % 16).toNat 3
def pGet (w : Int) : List Int := bif pGood (digs w (pNum w)) && decide (pathW (digs w (pNum w)) = w) then digs w (pNum w) else []
def cWords (c : Call) : List Int := [c.op + c.x * 256 + c.y * 16777216, pathW c.a, pathW c.b, c.w]
def gCall (l0 l1 l2 l3 : Int) : Call := ⟨l0 % 256, pGet l1, pGet l2, l0 / 256 % 65536, l0 / 16777216 % 65536, l3⟩
def gOk (l0 l1 l2 l3 : Int) : Bool := callGood (gCall l0 l1 l2 l3) && decide (cWords (gCall l0 l1 l2 l3) = [l0, l1, l2, l3])
theorem pGood_ways {p : List Int} (h : pGood p = true) : (∃ a, p = [a] ∧ 0 ≤ a ∧ a ≤ 15) ∨ (∃ a b, p = [a, b] ∧ 0 ≤ a ∧ a ≤ 15 ∧ 0 ≤ b ∧ b ≤ 15) ∨ ∃ a b c, p = [a, b, c] ∧ 0 ≤ a ∧ a ≤ 15 ∧ 0 ≤ b ∧ b ≤ 15 ∧ 0 ≤ c ∧ c ≤ 15 := by
 match p, h with
 | [], h => simp [pGood] at h
 | [a], h => simp [pGood] at h; exact .inl ⟨a, rfl, h.1, h.2⟩
 | [a, b], h => simp [pGood] at h; exact .inr (.inl ⟨a, b, rfl, h.1.1, h.1.2, h.2.1, h.2.2⟩)
 | [a, b, c], h => simp [pGood] at h; exact .inr (.inr ⟨a, b, c, rfl, h.1.1, h.1.2, h.2.1.1, h.2.1.2, h.2.2.1, h.2.2.2⟩)
 | a :: b :: c :: d :: l, h => simp [pGood] at h; omega
theorem pathW_in {p : List Int} (h : pGood p = true) : 1 ≤ pathW p ∧ pathW p < 65536 := by
 rcases pGood_ways h with ⟨a, rfl, h⟩ | ⟨a, b, rfl, h⟩ | ⟨a, b, c, rfl, h⟩ <;> simp [pathW, pathV] <;> omega
theorem pathW_nil : pathW [] = 0 := rfl
theorem callGood_in {c : Call} (h : callGood c = true) : 1 ≤ c.op ∧ c.op ≤ 13 ∧ 0 ≤ c.x ∧ c.x ≤ 7 ∧ 0 ≤ c.y ∧ c.y ≤ 65535 ∧ pGood c.a = true ∧ (c.b = [] ∨ pGood c.b = true) := by
 simp only [callGood, Bool.and_eq_true, Bool.not_eq_true', decide_eq_false_iff_not] at h
 obtain ⟨h1, h2, h3, h4, h5⟩ := h
 have hop : 1 ≤ c.op ∧ c.op ≤ 13 := by
  rcases op_cases c.op with h | h
  ·omega
  ·exact absurd (call_none h).2 h1
 have hn : 0 ≤ c.x ∧ c.x ≤ 7 ∧ 0 ≤ c.y ∧ c.y ≤ 65535 := by
  simp only [cNumbers] at h4
  by_cases e1 : c.op = 1
  ·simp [e1, inB] at h4; omega
  by_cases e2 : c.op = 2
  ·simp [e2, rGood, inB] at h4; omega
  by_cases e3 : c.op = 3
  ·simp [e3, rGood, inB] at h4; omega
  by_cases e11 : c.op = 11 ∨ c.op = 12
  ·rcases e11 with e | e <;> (simp [e, inB] at h4; omega)
  ·simp [e1, e2, e3, show ¬ c.op = 11 by omega, show ¬ c.op = 12 by omega] at h4; omega
 refine ⟨hop.1, hop.2, hn.1, hn.2.1, hn.2.2.1, hn.2.2.2, h2, ?_⟩
 simp only [Bool.or_eq_true, Bool.and_eq_true, decide_eq_true_eq] at h3
 rcases h3 with h | h
 ·left; exact List.length_eq_zero_iff.1 (by omega)
 ·exact .inr h.1
attribute [irreducible] pathW digs pGet
end Go.Ax.M
namespace Go.Ax.M
open Go Go.Ax
structure Part (s u : State) (k : Nat) : Prop where
 geo : u.geo = s.geo
 lS : u.slots.length = s.slots.length
 lT : u.things.length = s.things.length
 gone : ∀ j, j < k → u.slot j = ⟨.zero, -1⟩
 cap : ∀ j, k ≤ j → (u.slot j).cap = (s.slot j).cap
 none : ∀ j, j < s.slots.length → cNone (u.slot j).cap = true → u.slot j = ⟨.zero, -1⟩
 th : ∀ t, t < s.things.length → u.thing t = if 0 < (s.thing t).from_ ∧ (s.thing t).from_ ≤ k then { s.thing t with from_ := 0 } else s.thing t
theorem emptyS_slot {s : State} {i k : Nat} (hi : i < s.slots.length) (hk : k < s.slots.length) : (emptyS s i).slot k = if k = i then ⟨.zero, -1⟩ else emptySl s i (s.slot k) := by
 simp only [emptyS, State.slot, List.getD, Int.toNat_natCast]
 by_cases e : k = i
 ·subst e; simp [hi]
 ·rw [List.getElem?_set_ne (fun h => e h.symm), if_neg e, List.getElem?_map]; simp [hk]
theorem emptyS_thing {s : State} {i : Int} {k : Nat} (hk : k < s.things.length) : (emptyS s i).thing k = emptyTh i (s.thing k) := by simp [emptyS, State.thing, List.getD, hk]
def fulls (s : State) (k : Nat) : Nat := (List.range k).countP fun j => !cNone (s.slot j).cap
theorem fulls_succ {s : State} {k : Nat} : fulls s (k + 1) = fulls s k + (if (!cNone (s.slot k).cap) = true then 1 else 0) := by simp [fulls, List.range_succ, List.countP_append, List.countP_singleton]
end Go.Ax.M
namespace Go.Ax.M
open Go Go.Ax
def RoomOnce (s : State) : Prop := ∀ i j, i < s.slots.length → j < s.slots.length → (s.slot i).cap.ty = 1 → (s.slot j).cap.ty = 1 → (s.slot i).cap.th = (s.slot j).cap.th → i = j
structure Pre (s : State) : Prop where
 geo : gGood s.geo = true
 lenS : (s.slots.length : Int) = s.geo.slots
 lenT : (s.things.length : Int) = s.geo.things
 capG : ∀ i, i < s.slots.length → cGood (s.slot i).cap = true
 upN : ∀ i, i < s.slots.length → cNone (s.slot i).cap = true → (s.slot i).up = -1
 capT : ∀ i, i < s.slots.length → s.non i → sThere s (s.slot i).cap.th = true ∧ (s.thing (s.slot i).cap.th.toNat).ty = (s.slot i).cap.ty
 tGood : ∀ k, k < s.things.length → tGood (s.thing k) = true
 from_ : ∀ k, k < s.things.length → 0 < (s.thing k).from_ → (s.thing k).from_ ≤ s.slots.length ∧ s.non ((s.thing k).from_ - 1).toNat
 root : ∀ k, k < s.things.length → rootB s k = true → s.thing k = rootT s.geo ((k : Int) - 2)
 fit : ∀ k, k < s.things.length → fitN s k
 apart : ∀ n, n < s.things.length → ∀ m, m < n → apartN s n m
 has : ∀ i, i < s.slots.length → s.non i → ∃ n, n < s.things.length ∧ tHas (s.thing n) i = true
 ring : ∀ n : Nat, n < s.things.length → ∀ m, Edge s n m → ¬ Reach s m n
 up : ∀ i, i < s.slots.length → s.non i → (s.slot i).up = -1 ∨ (0 ≤ (s.slot i).up ∧ (s.slot i).up < s.slots.length ∧ s.non (s.slot i).up.toNat)
 rank : ∃ r : Nat → Nat, ∀ i, i < s.slots.length → s.non i → 0 ≤ (s.slot i).up → r (s.slot i).up.toNat < r i
 allow : ∀ i, i < s.slots.length → s.non i → 0 ≤ (s.slot i).up → cLess (s.slot i).cap (s.slot (s.slot i).up.toNat).cap = true ∨ ((s.slot (s.slot i).up.toNat).cap.ty = 1 ∧ (s.slot i).cap.th ≠ (s.slot (s.slot i).up.toNat).cap.th)
 once : RoomOnce s
theorem Inv.pre {s : State} (h : Inv s) (o : RoomOnce s) : Pre s :=
 ⟨h.geo, h.lenS, h.lenT, h.capG, h.upN, h.capT, h.tGood, h.from_, h.root, h.fit, h.apart, h.has, h.ring, h.up, h.rank, h.allow, o⟩
theorem held_iff {s : State} {t : Nat} : heldB s t = true ↔ ∃ k, k < s.slots.length ∧ s.non k ∧ (s.slot k).cap.th = t := by
 constructor
 ·intro h
  simp only [heldB, Bool.not_eq_true', List.all_eq_false, List.mem_range] at h
  obtain ⟨k, hk, h⟩ := h
  have h2 : holdB s t k = true := by simpa using h
  simp only [holdB, Bool.and_eq_true, Bool.not_eq_true', decide_eq_true_eq] at h2
  exact ⟨k, hk, h2.1, h2.2⟩
 ·rintro ⟨k, hk, h1, h2⟩; exact held_of hk h1 h2
theorem Pre.inv {s : State} (h : Pre s) (hh : ∀ t, t < s.things.length → lostB s t = false) : Inv s ∧ RoomOnce s :=
 ⟨⟨h.geo, h.lenS, h.lenT, h.capG, h.upN, h.capT, h.tGood, h.from_, h.root, fun k hk hr h0 => by
  have := hh k hk
  simp only [lostB, hr, h0, decide_false, Bool.not_false, Bool.true_and, Bool.not_eq_false'] at this
  exact held_iff.1 this, h.fit, h.apart, h.has, h.ring, h.up, h.rank, h.allow⟩, h.once⟩
theorem tGood_from0 {t : Thing} (h : tGood t = true) : tGood { t with from_ := 0 } = true := by
 by_cases h0 : t.from_ = 0
 ·rw [show ({ t with from_ := 0 } : Thing) = t by rw [← h0]]; exact h
 ·have h1 : tOwn t = t := by simp [M.tGood] at h; exact tEq_iff.1 h.1
  have h3 : t.ty = 3 ∧ t.full = true := by
   by_cases e1 : t.ty = 1
   ·rw [← h1] at h0; simp [tOwn, e1, Thing.zero] at h0
   by_cases e2 : t.ty = 2
   ·rw [← h1] at h0; simp [tOwn, e2, Thing.zero] at h0
   by_cases e3 : t.ty = 3
   ·refine ⟨e3, ?_⟩
    cases hf : t.full with
    | true => rfl
    | false => rw [← h1] at h0; simp [tOwn, e3, hf, Thing.zero] at h0
   by_cases e4 : t.ty = 4
   ·rw [← h1] at h0; simp [tOwn, e4, Thing.zero] at h0
   by_cases e5 : t.ty = 5
   ·rw [← h1] at h0; simp [tOwn, e5, Thing.zero] at h0
   rw [← h1] at h0; simp [tOwn, e1, e2, e3, e4, e5, Thing.zero] at h0
  have h4 : tOwn ({ t with from_ := 0 } : Thing) = { t with from_ := 0 } := by
   have e : tOwn t = { Thing.zero with ty := t.ty, full := true, word := t.word, badge := t.badge, from_ := t.from_ } := by simp [tOwn, h3.1, h3.2]
   rw [e] at h1
   have e2 : tOwn ({ t with from_ := 0 } : Thing) = { Thing.zero with ty := t.ty, full := true, word := t.word, badge := t.badge, from_ := 0 } := by simp [tOwn, h3.1, h3.2]
   rw [e2]
   conv => rhs; rw [← h1]
  simp only [M.tGood, Bool.and_eq_true] at h ⊢
  refine ⟨tEq_iff.2 h4, ?_⟩
  have := h.2
  simp [inB, h3.1] at this ⊢
  omega
theorem cLess_trans {a b c : Cap} (hb : cNone b = false) (h1 : cLess a b = true) (h2 : cLess b c = true) (hw : ∀ x y z : Int, rWithin x y = true → rWithin y z = true → rWithin x z = true) : cLess a c = true := by
 cases ha : cNone a with
 | true => simp [cLess, ha]
 | false =>
  simp only [cLess, ha, hb, Bool.false_or, Bool.and_eq_true, decide_eq_true_eq, Bool.or_eq_true] at h1 h2 ⊢
  obtain ⟨a1, a2, a3, a4⟩ := h1
  obtain ⟨b1, b2, b3, b4⟩ := h2
  refine ⟨a1.trans b1, a2.trans b2, hw _ _ _ a3 b3, ?_⟩
  rcases b4 with h | h
  ·exact .inl h
  ·rcases a4 with g | g
   ·exact .inl (h.trans g)
   ·exact .inr (h.trans g)
theorem rOf_range (r : Int) : ∃ k : Fin 8, rOf r = (k.val : Int) := by
 cases h : rGood r with
 | false => exact ⟨0, by simp [rOf, h]⟩
 | true =>
  have h' := h
  simp only [rGood, inB_iff] at h'
  exact ⟨⟨r.toNat, by omega⟩, by simp only [rOf, h, cond_true]; omega⟩
def lessN (a b : Fin 8) : Int := IntKind.wrap .i64 ((BitVec.ofInt (IntKind.bits .i64) (a.val : Int) &&& ~~~ BitVec.ofInt (IntKind.bits .i64) (b.val : Int)).toNat)
theorem lessN_trans : ∀ a b c : Fin 8, lessN a b = 0 → lessN b c = 0 → lessN a c = 0 := by decide +kernel
theorem within_trans (x y z : Int) (h1 : rWithin x y = true) (h2 : rWithin y z = true) : rWithin x z = true := by
 obtain ⟨a, ha⟩ := rOf_range x
 obtain ⟨b, hb⟩ := rOf_range y
 obtain ⟨c, hc⟩ := rOf_range z
 simp only [rWithin, rLess, ha, hb, hc, decide_eq_true_eq] at h1 h2 ⊢
 exact lessN_trans a b c h1 h2
theorem pre_empty {s : State} (h : Pre s) {i : Nat} (hi : i < s.slots.length) (hn : s.non i) : Pre (emptyS s i) := by
 have hsl : ∀ k, k < s.slots.length → (emptyS s i).slot k = if k = i then ⟨.zero, -1⟩ else emptySl s i (s.slot k) := fun k hk => emptyS_slot hi hk
 have hth : ∀ k, k < s.things.length → (emptyS s i).thing k = emptyTh i (s.thing k) := fun k hk => emptyS_thing hk
 have hL : (emptyS s i).slots.length = s.slots.length := by simp [emptyS]
 have hLT : (emptyS s i).things.length = s.things.length := by simp [emptyS]
 have hg : (emptyS s i).geo = s.geo := rfl
 generalize emptyS s i = u at *
 have hii : u.slot i = ⟨.zero, -1⟩ := by rw [hsl i hi, if_pos rfl]
 have hnz : cNone Cap.zero = true := by simp [cNone, Cap.zero]
 have hcap : ∀ k, k < s.slots.length → k ≠ i → (u.slot k).cap = (s.slot k).cap := fun k hk e => by
  rw [hsl k hk, if_neg e, emptySl]; split <;> rfl
 have hup : ∀ k, k < s.slots.length → k ≠ i → (u.slot k).up = if (s.slot k).up = (i : Int) then (s.slot i).up else (s.slot k).up := fun k hk e => by
  rw [hsl k hk, if_neg e, emptySl, Int.toNat_natCast]; split <;> rfl
 have hnon : ∀ k, k < s.slots.length → u.non k → k ≠ i ∧ s.non k := fun k hk hk2 => by
  by_cases e : k = i
  ·subst e; rw [State.non, hii, hnz] at hk2; cases hk2
  ·exact ⟨e, by rw [State.non, hcap k hk e] at hk2; exact hk2⟩
 have hnon' : ∀ k, k < s.slots.length → k ≠ i → s.non k → u.non k := fun k hk e hk2 => by rw [State.non, hcap k hk e]; exact hk2
 have hty : ∀ k, k < s.things.length → (u.thing k).ty = (s.thing k).ty ∧ (u.thing k).bits = (s.thing k).bits ∧ (u.thing k).base = (s.thing k).base := fun k hk => by rw [hth k hk, emptyTh]; split <;> exact ⟨rfl, rfl, rfl⟩
 have hhas : ∀ k, k < s.things.length → ∀ j, tHas (u.thing k) j = tHas (s.thing k) j := fun k hk j => by simp only [tHas, hty k hk]
 have hthere : ∀ t, sThere u t = sThere s t := fun t => by
  simp only [sThere, hLT]
  by_cases h0 : 0 ≤ t ∧ t < (s.things.length : Int)
  ·rw [(hty t.toNat (by omega)).1]
  ·by_cases h1 : 0 ≤ t
   ·rw [decide_eq_false (show ¬ t < (s.things.length : Int) by omega)]; simp
   ·rw [decide_eq_false h1]; simp
 have hrB : ∀ t, rootB u t = rootB s t := fun t => by simp only [rootB, hg]
 obtain ⟨r, hr⟩ := h.rank
 refine ⟨by rw [hg]; exact h.geo, by rw [hL, hg]; exact h.lenS, by rw [hLT, hg]; exact h.lenT, fun k hk => ?_, fun k hk hkn => ?_, fun k hk hkn => ?_, fun k hk => ?_, fun k hk h0 => ?_, fun k hk hk2 => ?_, fun k hk h2 => ?_, fun n hn' m hm j h1 h2 => ?_, fun k hk hkn => ?_, ?_, fun k hk hkn => ?_, ⟨r, fun k hk hkn h0 => ?_⟩, fun k hk hkn h0 => ?_, fun k j hk hj h1 h2 h3 => ?_⟩
 ·rw [hL] at hk
  by_cases e : k = i
  ·subst e; rw [hii]; simp [cGood, hnz]
  ·rw [hcap k hk e]; exact h.capG k hk
 ·rw [hL] at hk
  by_cases e : k = i
  ·subst e; rw [hii]
  ·rw [hcap k hk e] at hkn
   rw [hup k hk e, h.upN k hk hkn, if_neg (by omega)]
 ·rw [hL] at hk
  obtain ⟨e, hkn⟩ := hnon k hk hkn
  obtain ⟨a, b⟩ := h.capT k hk hkn
  rw [hcap k hk e, hthere]
  refine ⟨a, ?_⟩
  have : (s.slot k).cap.th.toNat < s.things.length := by simp [sThere] at a; omega
  rw [(hty _ this).1]; exact b
 ·rw [hLT] at hk
  rw [hth k hk, emptyTh]
  split
  ·exact tGood_from0 (h.tGood k hk)
  ·exact h.tGood k hk
 ·rw [hLT] at hk
  rw [hth k hk, emptyTh] at h0 ⊢
  by_cases e : (s.thing k).from_ = (i : Int) + 1
  ·rw [if_pos e] at h0; simp at h0
  ·rw [if_neg e] at h0 ⊢
   obtain ⟨a, b⟩ := h.from_ k hk h0
   exact ⟨by rw [hL]; exact a, hnon' _ (by omega) (by omega) b⟩
 ·rw [hLT] at hk
  rw [hrB] at hk2
  have := h.root k hk hk2
  rw [hth k hk, this, emptyTh, if_neg (by simp [rootT]; omega), hg]
 ·rw [hLT] at hk
  rw [(hty k hk).1] at h2
  rw [(hty k hk).2.1, (hty k hk).2.2, hL]; exact h.fit k hk h2
 ·rw [hLT] at hn'
  rw [hhas n hn'] at h1
  rw [hhas m (by omega)] at h2
  exact h.apart n hn' m hm j h1 h2
 ·rw [hL] at hk
  obtain ⟨n, a, b⟩ := h.has k hk (hnon k hk hkn).2
  exact ⟨n, by rw [hLT]; exact a, by rw [hhas n a]; exact b⟩
 ·refine ring_sub h.ring hLT fun n m e => ?_
  obtain ⟨n0, j, hj, a, b, c, rfl⟩ := e
  rw [hL] at hj
  have e : j ≠ i := by rintro rfl; rw [hii] at a; simp [Cap.zero] at a
  rw [hcap j hj e] at a c ⊢
  rw [hthere] at c
  by_cases hnt : n.toNat < s.things.length
  ·rw [hhas _ hnt] at b
   exact ⟨n0, j, hj, a, b, c, rfl⟩
  ·have : u.thing n.toNat = Thing.zero := by simp only [State.thing, List.getD]; rw [List.getElem?_eq_none (by omega)]; rfl
   rw [this] at b; simp [tHas, Thing.zero] at b
 ·rw [hL] at hk ⊢
  obtain ⟨e, hkn⟩ := hnon k hk hkn
  rw [hup k hk e]
  by_cases e2 : (s.slot k).up = (i : Int)
  ·rw [if_pos e2]
   rcases h.up i hi hn with h1 | ⟨a, b, c⟩
   ·exact .inl h1
   ·right
    have h1 := hr i hi hn a
    exact ⟨a, b, hnon' _ (by omega) (by intro e3; rw [e3] at h1; omega) c⟩
  ·rw [if_neg e2]
   rcases h.up k hk hkn with h1 | ⟨a, b, c⟩
   ·exact .inl h1
   ·exact .inr ⟨a, b, hnon' _ (by omega) (by omega) c⟩
 ·rw [hL] at hk
  obtain ⟨e, hkn⟩ := hnon k hk hkn
  rw [hup k hk e] at h0 ⊢
  by_cases e2 : (s.slot k).up = (i : Int)
  ·rw [if_pos e2] at h0 ⊢
   have h1 := hr i hi hn h0
   have h2 := hr k hk hkn (by omega)
   rw [e2, Int.toNat_natCast] at h2
   omega
  ·rw [if_neg e2] at h0 ⊢
   exact hr k hk hkn h0
 ·rw [hL] at hk
  obtain ⟨e, hkn⟩ := hnon k hk hkn
  rw [hup k hk e] at h0 ⊢
  by_cases e2 : (s.slot k).up = (i : Int)
  ·rw [if_pos e2] at h0 ⊢
   have hri := hr i hi hn h0
   have hrk := hr k hk hkn (by omega)
   rw [e2, Int.toNat_natCast] at hrk
   have hui : (s.slot i).up.toNat < s.slots.length ∧ s.non (s.slot i).up.toNat := by
    rcases h.up i hi hn with h1 | ⟨_, b, c⟩
    ·omega
    ·exact ⟨by omega, c⟩
   have hne : (s.slot i).up.toNat ≠ i := by intro e; rw [e] at hri; omega
   have hnk : (s.slot i).up.toNat ≠ k := by intro e; rw [e] at hri; omega
   rw [hcap k hk e, hcap _ hui.1 hne]
   have hk1 := h.allow k hk hkn (by omega)
   rw [e2, Int.toNat_natCast] at hk1
   have hi1 := h.allow i hi hn h0
   have hik : k ≠ i := e
   rcases hk1 with hk1 | ⟨hk1, hk2⟩
   ·rcases hi1 with hi1 | ⟨hi1, hi2⟩
    ·exact .inl (cLess_trans hn hk1 hi1 within_trans)
    ·right
     have := (cLess_eq hk1 hkn).2
     exact ⟨hi1, by rw [this]; exact hi2⟩
   ·rcases hi1 with hi1 | ⟨hi1, hi2⟩
    ·have := cLess_eq hi1 hn
     exact absurd (h.once i _ hi hui.1 hk1 (this.1 ▸ hk1) this.2) (fun e => hne e.symm)
    ·right
     refine ⟨hi1, fun he => ?_⟩
     have c1 := (h.capT k hk hkn).2
     have c2 := (h.capT _ hui.1 hui.2).2
     rw [he] at c1
     exact absurd (h.once k _ hk hui.1 (by omega) hi1 he) (fun e => hnk e.symm)
  ·rw [if_neg e2] at h0 ⊢
   have hu : (s.slot k).up.toNat < s.slots.length := by
    rcases h.up k hk hkn with h1 | ⟨_, b, _⟩ <;> omega
   rw [hcap k hk e, hcap _ hu (by omega)]
   exact h.allow k hk hkn h0
 ·rw [hL] at hk hj
  have e : k ≠ i := by rintro rfl; rw [hii] at h1; simp [Cap.zero] at h1
  have e2 : j ≠ i := by rintro rfl; rw [hii] at h2; simp [Cap.zero] at h2
  rw [hcap k hk e] at h1 h3
  rw [hcap j hj e2] at h2 h3
  exact h.once k j hk hj h1 h2 h3
theorem pre_emptyE {p : State × Int} (h : Pre p.1) (i : Int) : Pre (emptyE p i).1 := by
 obtain ⟨u, n⟩ := p
 have h : Pre u := h
 simp only [M.emptyE]
 cases hb : emptyB u i with
 | false => exact h
 | true =>
  simp only [emptyB, Bool.and_eq_true, Bool.not_eq_true', decide_eq_false_iff_not, Int.not_lt, Int.not_le] at hb
  have := pre_empty h (i := i.toNat) (by omega) hb.2.2
  rw [Int.toNat_of_nonneg hb.1] at this
  exact this
theorem pre_empties : ∀ (l : List Int) {s : State} {n : Int}, Pre s → Pre (empties s n l).1
 | [], _, _, h => h
 | i :: l, s, n, h => by
  have e : M.empties s n (i :: l) = M.empties (M.emptyE (s, n) i).1 (M.emptyE (s, n) i).2 l := rfl
  rw [e]; exact pre_empties l (pre_emptyE h i)
theorem none_empty {u : State} {i : Int} (hb : emptyB u i = true) {k : Nat} (hk : k < u.slots.length) (hz : cNone (u.slot k).cap = true) : cNone ((emptyS u i).slot k).cap = true := by
 simp only [emptyB, Bool.and_eq_true, Bool.not_eq_true', decide_eq_false_iff_not, Int.not_lt, Int.not_le] at hb
 have := emptyS_slot (s := u) (i := i.toNat) (by omega) hk
 rw [Int.toNat_of_nonneg (by omega)] at this
 rw [this]
 split
 ·simp [cNone, Cap.zero]
 ·rw [emptySl]; split <;> exact hz
theorem none_empties : ∀ (l : List Int) {s : State} {n : Int} {k : Nat}, k < s.slots.length → cNone (s.slot k).cap = true → cNone ((empties s n l).1.slot k).cap = true
 | [], _, _, _, _, h => h
 | i :: l, s, n, k, hk, h => by
  have e : M.empties s n (i :: l) = M.empties (M.emptyE (s, n) i).1 (M.emptyE (s, n) i).2 l := rfl
  rw [e]
  cases hb : emptyB s i with
  | false => simp only [M.emptyE, hb, cond_false]; exact none_empties l hk h
  | true => simp only [M.emptyE, hb, cond_true]; exact none_empties l (by simp [emptyS]; exact hk) (none_empty hb hk h)
theorem hit_empties : ∀ (l : List Int) {s : State} {n : Int} {k : Nat}, k < s.slots.length → (k : Int) ∈ l → cNone ((empties s n l).1.slot k).cap = true
 | [], _, _, _, _, h => by simp at h
 | i :: l, s, n, k, hk, h => by
  have e : M.empties s n (i :: l) = M.empties (M.emptyE (s, n) i).1 (M.emptyE (s, n) i).2 l := rfl
  rw [e]
  rcases List.mem_cons.1 h with rfl | h
  ·cases hb : emptyB s (k : Int) with
   | false =>
    simp only [M.emptyE, hb, cond_false]
    refine none_empties l hk ?_
    simp only [emptyB, Int.toNat_natCast] at hb
    rw [decide_eq_false (by omega), decide_eq_false (by omega)] at hb
    simpa using hb
   | true =>
    simp only [M.emptyE, hb, cond_true]
    refine none_empties l (by simp [emptyS]; exact hk) ?_
    rw [emptyS_slot hk hk, if_pos rfl]; simp [cNone, Cap.zero]
  ·cases hb : emptyB s i with
   | false => simp only [M.emptyE, hb, cond_false]; exact hit_empties l hk h
   | true => simp only [M.emptyE, hb, cond_true]; exact hit_empties l (by simp [emptyS]; exact hk) h
theorem caps_empties : ∀ (l : List Int) {s : State} {n : Int} {k : Nat}, k < s.slots.length → cNone ((empties s n l).1.slot k).cap = false → ((empties s n l).1.slot k).cap = (s.slot k).cap
 | [], _, _, _, _, _ => rfl
 | i :: l, s, n, k, hk, h => by
  have e : M.empties s n (i :: l) = M.empties (M.emptyE (s, n) i).1 (M.emptyE (s, n) i).2 l := rfl
  rw [e] at h ⊢
  cases hb : emptyB s i with
  | false => simp only [M.emptyE, hb, cond_false] at h ⊢; exact caps_empties l hk h
  | true =>
   simp only [M.emptyE, hb, cond_true] at h ⊢
   rw [caps_empties l (by simp [emptyS]; exact hk) h]
   have hb' := hb
   simp only [emptyB, Bool.and_eq_true, Bool.not_eq_true', decide_eq_false_iff_not, Int.not_lt, Int.not_le] at hb'
   have e2 := emptyS_slot (s := s) (i := i.toNat) (by omega) hk
   rw [Int.toNat_of_nonneg (by omega)] at e2
   by_cases hki : k = i.toNat
   ·exfalso
    have : cNone ((emptyS s i).slot k).cap = true := by rw [e2, if_pos hki]; simp [cNone, Cap.zero]
    have := none_empties l (s := emptyS s i) (n := n + 1) (k := k) (by simp [emptyS]; exact hk) this
    rw [this] at h; cases h
   ·rw [e2, if_neg hki, emptySl]; split <;> rfl
theorem pre_zero {s : State} (h : Pre s) {t : Nat} (ht : t < s.things.length) (hr : rootB s t = false) (hh : heldB s t = false) (he : ∀ i, i < s.slots.length → tHas (s.thing t) i = true → cNone (s.slot i).cap = true) :
 Pre { s with things := s.things.set t .zero } := by
 have hth : ∀ k, ({ s with things := s.things.set t .zero } : State).thing k = if k = t then .zero else s.thing k := fun k => thing_set ht
 have hLT : ({ s with things := s.things.set t .zero } : State).things.length = s.things.length := by simp
 have hsl : ∀ k, ({ s with things := s.things.set t .zero } : State).slot k = s.slot k := fun _ => rfl
 have hL : ({ s with things := s.things.set t .zero } : State).slots.length = s.slots.length := rfl
 have hg : ({ s with things := s.things.set t .zero } : State).geo = s.geo := rfl
 generalize ({ s with things := s.things.set t .zero } : State) = u at *
 have hnon : ∀ k, u.non k = s.non k := fun k => by simp only [State.non, hsl]
 have hrB : ∀ t, rootB u t = rootB s t := fun t => by simp only [rootB, hg]
 have hnh : ∀ k, k < s.slots.length → s.non k → (s.slot k).cap.th ≠ (t : Int) := fun k hk hkn e => by
  rw [held_of hk hkn e] at hh; cases hh
 have hhas : ∀ k i, tHas (u.thing k) i = true → k ≠ t ∧ tHas (s.thing k) i = true := fun k i hk => by
  rw [hth] at hk
  by_cases e : k = t
  ·rw [if_pos e] at hk; simp [tHas, Thing.zero] at hk
  ·rw [if_neg e] at hk; exact ⟨e, hk⟩
 have hthere : ∀ k, k < s.slots.length → s.non k → sThere s (s.slot k).cap.th = true → sThere u (s.slot k).cap.th = true := fun k hk hkn hs => by
  simp only [sThere, Bool.and_eq_true, decide_eq_true_eq, hLT, hth] at hs ⊢
  rw [if_neg (by have := hnh k hk hkn; omega)]; exact hs
 have hthere' : ∀ x, sThere u x = true → sThere s x = true := fun x hx => by
  simp only [sThere, Bool.and_eq_true, decide_eq_true_eq, hLT, hth] at hx ⊢
  by_cases e : x.toNat = t
  ·rw [if_pos e] at hx; simp [Thing.zero] at hx
  ·rw [if_neg e] at hx; exact hx
 refine ⟨by rw [hg]; exact h.geo, by rw [hL, hg]; exact h.lenS, by rw [hLT, hg]; exact h.lenT, fun k hk => by rw [hsl]; exact h.capG k (hL ▸ hk), fun k hk hkn => by rw [hsl] at hkn ⊢; exact h.upN k (hL ▸ hk) hkn, fun k hk hkn => ?_, fun k hk => ?_, fun k hk h0 => ?_, fun k hk hk2 => ?_, fun k hk h2 => ?_, fun n hn' m hm j h1 h2 => h.apart n (hLT ▸ hn') m hm j (hhas n j h1).2 (hhas m j h2).2, fun k hk hkn => ?_, ?_, fun k hk hkn => ?_, ?_, fun k hk hkn h0 => ?_, fun k j hk hj h1 h2 h3 => ?_⟩
 ·rw [hL] at hk; rw [hnon] at hkn
  obtain ⟨a, b⟩ := h.capT k hk hkn
  rw [hsl]
  refine ⟨hthere k hk hkn a, ?_⟩
  rw [hth, if_neg (by have := hnh k hk hkn; simp [sThere] at a; omega)]; exact b
 ·rw [hLT] at hk
  rw [hth]
  split
  ·simp [M.tGood, tOwn, tEq, Thing.zero]
  ·exact h.tGood k hk
 ·rw [hLT] at hk
  rw [hth] at h0 ⊢
  by_cases e : k = t
  ·rw [if_pos e] at h0; simp [Thing.zero] at h0
  ·rw [if_neg e] at h0 ⊢; rw [hL, hnon]; exact h.from_ k hk h0
 ·rw [hLT] at hk
  rw [hrB] at hk2
  rw [hth, if_neg (by rintro rfl; rw [hr] at hk2; cases hk2), hg]; exact h.root k hk hk2
 ·rw [hLT] at hk
  rw [hth] at h2 ⊢
  by_cases e : k = t
  ·rw [if_pos e] at h2; simp [Thing.zero] at h2
  ·rw [if_neg e] at h2 ⊢; rw [hL]; exact h.fit k hk h2
 ·rw [hL] at hk; rw [hnon] at hkn
  obtain ⟨n, a, b⟩ := h.has k hk hkn
  have e : n ≠ t := by
   rintro rfl
   have := he k hk b
   rw [State.non, this] at hkn; cases hkn
  exact ⟨n, by rw [hLT]; exact a, by rw [hth, if_neg e]; exact b⟩
 ·refine ring_sub h.ring hLT fun n m e => ?_
  obtain ⟨n0, j, hj, a, b, c, rfl⟩ := e
  rw [hsl] at a c ⊢
  exact ⟨n0, j, hL ▸ hj, a, (hhas _ _ b).2, hthere' _ c, rfl⟩
 ·rw [hL, hsl, hnon] at *; exact h.up k hk hkn
 ·obtain ⟨r, hr⟩ := h.rank
  exact ⟨r, fun k hk hkn h0 => by rw [hsl] at h0 ⊢; exact hr k (hL ▸ hk) (by rw [← hnon]; exact hkn) h0⟩
 ·rw [hsl] at h0 ⊢; rw [hsl]; exact h.allow k (hL ▸ hk) (by rw [← hnon]; exact hkn) h0
 ·rw [hL] at hk hj; rw [hsl] at h1 h3; rw [hsl] at h2 h3; exact h.once k j hk hj h1 h2 h3
theorem nodeL_mem {t : Thing} {i : Nat} (h : tHas t i = true) : (i : Int) ∈ nodeL t := by
 rw [tHas_iff] at h
 simp only [nodeL, h.1, decide_true, cond_true, List.mem_map, List.mem_range]
 exact ⟨((i : Int) - t.base).toNat, by omega, by omega⟩
theorem pre_lostS {s : State} (h : Pre s) {t : Nat} (ht : t < s.things.length) (hl : lostB s t = true) : Pre (lostS s t).1 := by
 simp only [lostB, Bool.and_eq_true, Bool.not_eq_true', decide_eq_false_iff_not] at hl
 obtain ⟨_, hr, hh⟩ := hl
 have hlen := empties_lens (l := nodeL (s.thing t)) s 0
 have hp := pre_empties (nodeL (s.thing t)) (n := 0) h
 have hb : ∀ l : List Int, ∀ (v : State) (n : Int), (v.thing t).bits = (s.thing t).bits → (v.thing t).ty = (s.thing t).ty → (v.thing t).base = (s.thing t).base → t < v.things.length →
  ((empties v n l).1.thing t).bits = (s.thing t).bits ∧ ((empties v n l).1.thing t).ty = (s.thing t).ty ∧ ((empties v n l).1.thing t).base = (s.thing t).base := by
  intro l
  induction l with
  | nil => intro v n a b c _; exact ⟨a, b, c⟩
  | cons i l ih =>
   intro v n a b c d
   have e : M.empties v n (i :: l) = M.empties (M.emptyE (v, n) i).1 (M.emptyE (v, n) i).2 l := rfl
   rw [e]
   cases hb : emptyB v i with
   | false => simp only [M.emptyE, hb, cond_false]; exact ih v n a b c d
   | true =>
    simp only [M.emptyE, hb, cond_true]
    refine ih _ _ ?_ ?_ ?_ (by simp [emptyS]; exact d)
    ·rw [emptyS_thing d, emptyTh]; split <;> exact a
    ·rw [emptyS_thing d, emptyTh]; split <;> exact b
    ·rw [emptyS_thing d, emptyTh]; split <;> exact c
 have hsame := hb (nodeL (s.thing t)) s 0 rfl rfl rfl ht
 simp only [M.lostS]
 refine pre_zero hp (by omega) ?_ ?_ fun i hi hh2 => ?_
 ·simp only [rootB, hlen.2.2.1] at hr ⊢; exact hr
 ·cases hh2 : heldB (empties s 0 (nodeL (s.thing t))).1 t with
  | false => rfl
  | true =>
   obtain ⟨k, hk, a, b⟩ := held_iff.1 hh2
   rw [caps_empties _ (by omega) a] at b
   have : s.non k := by
    simp only [State.non] at a ⊢
    rw [caps_empties _ (by omega) a] at a; exact a
   rw [held_of (by omega) this b] at hh; cases hh
 ·refine hit_empties _ (by omega) (nodeL_mem ?_)
  simp only [tHas, hsame] at hh2 ⊢; exact hh2
theorem pre_lostE {p : State × Int × Bool} (h : Pre p.1) {t : Nat} (ht : t < p.1.things.length) : Pre (lostE p t).1 := by
 obtain ⟨u, n, f⟩ := p
 have h : Pre u := h
 simp only [M.lostE]
 cases hl : lostB u t with
 | false => exact h
 | true => exact pre_lostS h ht hl
theorem pre_rounds {u : State} {n : Int} (h : Pre u) (hb : BitsOk u) : ∀ k, k ≤ u.things.length → Pre (rounds u n k).1
 | 0, _ => h
 | k + 1, hk => by
  rw [round_succ]
  refine pre_lostE (pre_rounds h hb k (by omega)) ?_
  have := (round_less (n := n) hb k (by omega)).1.lT
  omega
theorem rounds_false {u : State} {n : Int} : ∀ k, (rounds u n k).2.2 = false → (rounds u n k).1 = u ∧ ∀ t, t < k → lostB u t = false
 | 0, _ => ⟨rfl, fun t ht => by omega⟩
 | k + 1, h => by
  rw [round_succ] at h ⊢
  simp only [M.lostE] at h ⊢
  cases hl : lostB (rounds u n k).1 k with
  | true => rw [hl] at h; simp at h
  | false =>
   rw [hl] at h
   simp only [cond_false] at h ⊢
   obtain ⟨a, b⟩ := rounds_false k h
   refine ⟨a, fun t ht => ?_⟩
   by_cases e : t = k
   ·subst e; rw [a] at hl; exact hl
   ·exact b t (by omega)
theorem pre_passes : ∀ (m : Nat) {u : State} {n : Int}, Pre u → BitsOk u → kinds u < m → Pre (passes m u n).1 ∧ ∀ t, t < (passes m u n).1.things.length → lostB (passes m u n).1 t = false
 | 0, u, n, _, _, h => by omega
 | m + 1, u, n, h, hb, hk => by
  have hp := pre_rounds (n := n) h hb u.things.length (Nat.le_refl _)
  obtain ⟨a, b, _, _⟩ := round_less (n := n) hb u.things.length (Nat.le_refl _)
  rw [M.passes, pass_rounds]
  cases hf : (M.rounds u n u.things.length).2.2 with
  | false =>
   simp only [cond_false]
   obtain ⟨c, d⟩ := rounds_false _ hf
   rw [c]; exact ⟨h, d⟩
  | true =>
   simp only [cond_true]
   rw [hf] at b
   simp only [cond_true] at b
   exact pre_passes m hp (a.bits hb) (by omega)
theorem takeE_inv {s : State} (h : Inv s) (o : RoomOnce s) (l : List Int) : Inv (takeE s l).1 ∧ RoomOnce (takeE s l).1 := by
 have hp := pre_empties l (n := 0) (h.pre o)
 have hl := empties_less (s := s) (n := 0) (l := l)
 have hk := kinds_le (u := (empties s 0 l).1)
 obtain ⟨a, b⟩ := pre_passes (s.things.length + 1) (n := (empties s 0 l).2) hp (hl.bits (bits_good h)) (by have := hl.lT; omega)
 exact a.inv b
end Go.Ax.M
namespace Go.Ax.M
open Go Go.Ax
section
variable {s u : State}
inductive Anc (s : State) (k : Nat) : Int → Prop
 | one : Anc s k (s.slot k).up
 | more {j : Int} : Anc s k j → 0 ≤ j → Anc s k (s.slot j.toNat).up
theorem Anc.trans {k : Nat} {i a : Int} (h : Anc s k i) (hi : 0 ≤ i) (g : Anc s i.toNat a) : Anc s k a := by
 induction g with
 | one => exact .more h hi
 | more _ h0 ih => exact .more ih h0
inductive Below (s : State) (n : Int) : Nat → Prop
 | kid {k : Nat} : k < s.slots.length → s.non k → (s.slot k).up = n → Below s n k
 | more {k j : Nat} : k < s.slots.length → s.non k → Below s n j → (s.slot k).up = (j : Int) → Below s n k
structure Rev (s u : State) : Prop where
 lS : u.slots.length = s.slots.length
 cap : ∀ k, k < s.slots.length → u.slot k = ⟨.zero, -1⟩ ∨ (u.non k ∧ (u.slot k).cap = (s.slot k).cap ∧ Anc s k (u.slot k).up)
theorem Rev.start (h : Inv s) : Rev s s := by
 refine ⟨rfl, fun k hk => ?_⟩
 cases hc : cNone (s.slot k).cap with
 | true =>
  left
  have := h.upN k hk hc
  rw [← none_cap hc, ← this]
 | false => exact .inr ⟨hc, rfl, .one⟩
theorem non_zero {u : State} {k : Nat} (h : u.slot k = ⟨.zero, -1⟩) : cNone (u.slot k).cap = true := by rw [h]; simp [cNone, Cap.zero]
theorem Rev.empty (r : Rev s u) {i : Int} (hb : emptyB u i = true) : Rev s (emptyS u i) ∧ fulls (emptyS u i) s.slots.length + 1 = fulls u s.slots.length ∧ (emptyS u i).slot i.toNat = ⟨.zero, -1⟩ ∧ ∀ k, k < s.slots.length → u.slot k = ⟨.zero, -1⟩ → (emptyS u i).slot k = ⟨.zero, -1⟩ := by
 simp only [emptyB, Bool.and_eq_true, Bool.not_eq_true', decide_eq_false_iff_not, Int.not_lt, Int.not_le] at hb
 obtain ⟨h0, h1, h2⟩ := hb
 have hi : i.toNat < u.slots.length := by omega
 have ei : ((i.toNat : Nat) : Int) = i := by omega
 have hsl : ∀ k, k < s.slots.length → (emptyS u i).slot k = if k = i.toNat then ⟨.zero, -1⟩ else emptySl u i (u.slot k) := fun k hk => by
  have := emptyS_slot (s := u) hi (k := k) (by rw [r.lS]; exact hk)
  rw [ei] at this; exact this
 have hz : ∀ k, k < s.slots.length → u.slot k = ⟨.zero, -1⟩ → (emptyS u i).slot k = ⟨.zero, -1⟩ := fun k hk hz => by
  rw [hsl k hk, hz]
  split
  ·rfl
  ·simp only [emptySl]; rw [if_neg (by omega)]
 have hii : (emptyS u i).slot i.toNat = ⟨.zero, -1⟩ := by rw [hsl _ (by rw [← r.lS]; exact hi), if_pos rfl]
 refine ⟨⟨by simp [emptyS, r.lS], fun k hk => ?_⟩, ?_, hii, hz⟩
 ·by_cases e : k = i.toNat
  ·left; rw [hsl k hk, if_pos e]
  ·rcases r.cap k hk with h | ⟨n1, n2, n3⟩
   ·exact .inl (hz k hk h)
   ·right
    rw [State.non, hsl k hk, if_neg e]
    simp only [emptySl]
    by_cases hu : (u.slot k).up = i
    ·rw [if_pos hu]
     refine ⟨n1, n2, ?_⟩
     rw [hu] at n3
     rcases r.cap i.toNat (by rw [← r.lS]; exact hi) with h | ⟨_, _, m3⟩
     ·have := non_zero h; rw [h2] at this; cases this
     ·exact n3.trans h0 m3
    ·rw [if_neg hu]; exact ⟨n1, n2, n3⟩
 ·have hlen : i.toNat < s.slots.length := by rw [← r.lS]; exact hi
  have key : ∀ m, m ≤ s.slots.length → fulls (emptyS u i) m + (if i.toNat < m then 1 else 0) = fulls u m := by
   intro m
   induction m with
   | zero => intro _; simp [fulls]
   | succ m ih =>
    intro hm
    have ih := ih (by omega)
    rw [fulls_succ, fulls_succ]
    by_cases e : m = i.toNat
    ·subst e
     rw [if_neg (Nat.lt_irrefl _)] at ih
     rw [non_zero hii, h2, if_pos (Nat.lt_succ_self _)]
     simp only [Bool.not_true, Bool.not_false, Bool.false_eq_true, if_false, if_true]
     omega
    ·have : cNone ((emptyS u i).slot m).cap = cNone (u.slot m).cap := by
      rw [hsl m (by omega), if_neg e]; simp only [emptySl]; split <;> rfl
     rw [this]
     by_cases hlt : i.toNat < m
     ·rw [if_pos hlt] at ih; rw [if_pos (show i.toNat < m + 1 by omega)]; omega
     ·rw [if_neg hlt] at ih; rw [if_neg (show ¬ i.toNat < m + 1 by omega)]; omega
  have := key s.slots.length (Nat.le_refl _)
  rw [if_pos hlen] at this; exact this
def OnWay (s : State) (p : State × Int) : Prop := Rev s p.1 ∧ p.2 + (fulls p.1 s.slots.length : Int) = fulls s s.slots.length
theorem OnWay.emptyE {p : State × Int} (h : OnWay s p) (i : Int) : OnWay s (emptyE p i) ∧ ∀ k, k < s.slots.length → p.1.slot k = ⟨.zero, -1⟩ → (M.emptyE p i).1.slot k = ⟨.zero, -1⟩ := by
 obtain ⟨u, n⟩ := p
 simp only [M.emptyE]
 cases hb : emptyB u i with
 | false => exact ⟨h, fun _ _ h => h⟩
 | true =>
  obtain ⟨a, b, _, d⟩ := h.1.empty hb
  have := h.2
  simp only at this a b d
  exact ⟨⟨a, by simp only [cond_true]; omega⟩, d⟩
theorem OnWay.empties : ∀ (l : List Int) {p : State × Int}, OnWay s p → OnWay s (empties p.1 p.2 l) ∧ ∀ k, k < s.slots.length → p.1.slot k = ⟨.zero, -1⟩ → (M.empties p.1 p.2 l).1.slot k = ⟨.zero, -1⟩
 | [], p, h => ⟨h, fun _ _ h => h⟩
 | i :: l, p, h => by
  have e : M.empties p.1 p.2 (i :: l) = M.empties (M.emptyE p i).1 (M.emptyE p i).2 l := rfl
  rw [e]
  obtain ⟨a, b⟩ := h.emptyE i
  obtain ⟨c, d⟩ := OnWay.empties l a
  exact ⟨c, fun k hk hz => d k hk (b k hk hz)⟩
theorem OnWay.hit {p : State × Int} (h : OnWay s p) : ∀ (l : List Int) {i : Int}, i ∈ l → 0 ≤ i → i < s.slots.length → (M.empties p.1 p.2 l).1.slot i.toNat = ⟨.zero, -1⟩ := by
 intro l
 induction l generalizing p with
 | nil => intro i hi; simp at hi
 | cons j l ih =>
  intro i hi h0 h1
  have e : M.empties p.1 p.2 (j :: l) = M.empties (M.emptyE p j).1 (M.emptyE p j).2 l := rfl
  rw [e]
  obtain ⟨a, b⟩ := h.emptyE j
  rcases List.mem_cons.1 hi with rfl | hi
  ·refine (OnWay.empties l a).2 _ (by omega) ?_
   obtain ⟨u, n⟩ := p
   simp only [M.emptyE]
   cases hb : emptyB u i with
   | true => exact (h.1.empty hb).2.2.1
   | false =>
    simp only [cond_false]
    rcases h.1.cap i.toNat (by omega) with hz | ⟨hn, _⟩
    ·exact hz
    ·exfalso
     have hlS := h.1.lS
     simp only at hlS hn
     simp only [emptyB, hlS] at hb
     rw [decide_eq_false (by omega), decide_eq_false (by omega), show cNone (u.slot i.toNat).cap = false from hn] at hb
     cases hb
  ·exact ih a hi h0 h1
theorem OnWay.things {p : State × Int} (h : OnWay s p) (l : List Thing) : OnWay s ({ p.1 with things := l }, p.2) := ⟨⟨h.1.lS, h.1.cap⟩, h.2⟩
theorem way_lost {p : State × Int × Bool} (h : OnWay s (p.1, p.2.1)) (t : Nat) : OnWay s ((lostE p t).1, (lostE p t).2.1) ∧ ∀ k, k < s.slots.length → p.1.slot k = ⟨.zero, -1⟩ → (lostE p t).1.slot k = ⟨.zero, -1⟩ := by
 obtain ⟨u, n, f⟩ := p
 simp only [lostE]
 cases lostB u t with
 | false => exact ⟨h, fun _ _ h => h⟩
 | true =>
  simp only [cond_true, lostS]
  have shift : ∀ (l : List Int) (a b : Int), empties u (a + b) l = ((empties u a l).1, (empties u a l).2 + b) := by
   have : ∀ (l : List Int) (v : State) (a b : Int), empties v (a + b) l = ((empties v a l).1, (empties v a l).2 + b) := by
    intro l
    induction l with
    | nil => intro v a b; rfl
    | cons i l ih =>
     intro v a b
     have e : ∀ c, empties v c (i :: l) = empties (emptyE (v, c) i).1 (emptyE (v, c) i).2 l := fun _ => rfl
     rw [e, e]
     simp only [emptyE]
     cases emptyB v i with
     | false => exact ih v a b
     | true => simp only [cond_true]; rw [← ih]; congr 1; omega
   exact fun l a b => this l u a b
  have e := shift (nodeL (u.thing t)) 0 n
  rw [Int.zero_add] at e
  obtain ⟨a, b⟩ := h.empties (nodeL (u.thing t))
  simp only at a b
  rw [e] at a b
  refine ⟨?_, b⟩
  have := a.things ((empties u 0 (nodeL (u.thing t))).1.things.set t .zero)
  simp only at this
  rw [Int.add_comm] at this
  exact this
theorem way_pass {p : State × Int} (h : OnWay s p) : OnWay s ((pass p.1 p.2).1, (pass p.1 p.2).2.1) ∧ ∀ k, k < s.slots.length → p.1.slot k = ⟨.zero, -1⟩ → (pass p.1 p.2).1.slot k = ⟨.zero, -1⟩ := by
 have : ∀ m, OnWay s (((List.range m).foldl lostE (p.1, p.2, false)).1, ((List.range m).foldl lostE (p.1, p.2, false)).2.1) ∧ ∀ k, k < s.slots.length → p.1.slot k = ⟨.zero, -1⟩ → ((List.range m).foldl lostE (p.1, p.2, false)).1.slot k = ⟨.zero, -1⟩ := by
  intro m
  induction m with
  | zero => exact ⟨h, fun _ _ h => h⟩
  | succ m ih =>
   rw [List.range_succ, List.foldl_append]
   obtain ⟨a, b⟩ := way_lost ih.1 m
   exact ⟨a, fun k hk hz => b k hk (ih.2 k hk hz)⟩
 exact this _
theorem way_passes : ∀ (m : Nat) {p : State × Int}, OnWay s p → OnWay s (passes m p.1 p.2) ∧ ∀ k, k < s.slots.length → p.1.slot k = ⟨.zero, -1⟩ → (passes m p.1 p.2).1.slot k = ⟨.zero, -1⟩
 | 0, p, h => ⟨h, fun _ _ h => h⟩
 | m + 1, p, h => by
  obtain ⟨a, b⟩ := way_pass h
  rw [passes]
  cases (pass p.1 p.2).2.2 with
  | false => exact ⟨a, b⟩
  | true =>
   obtain ⟨c, d⟩ := way_passes m a
   exact ⟨c, fun k hk hz => d k hk (b k hk hz)⟩
theorem way_takeE (h : Inv s) (l : List Int) : OnWay s (takeE s l) ∧ ∀ i ∈ l, 0 ≤ i → i < s.slots.length → (takeE s l).1.slot i.toNat = ⟨.zero, -1⟩ := by
 have h0 : OnWay s (s, 0) := ⟨Rev.start h, by simp⟩
 obtain ⟨a, _⟩ := h0.empties l
 simp only at a
 obtain ⟨b, c⟩ := way_passes (s.things.length + 1) a
 refine ⟨b, fun i hi h1 h2 => c _ (by omega) (h0.hit l hi h1 h2)⟩
def gone (s u : State) (k : Nat) : Nat := (List.range k).countP fun j => cNone (u.slot j).cap && !cNone (s.slot j).cap
end
end Go.Ax.M
namespace Go.Ax.M
open Go Go.Ax
def ruleM (s : State) (th : Int) (c : Call) : Res :=
 bif !(sGood s && (callGood c && inB th 0 (s.geo.threads - 1))) then .bad 1
 else bif decide (c.op = 1) then carveM s th c
 else bif decide (c.op = 2) || (decide (c.op = 3) || decide (c.op = 4)) then giveM s th c
 else bif decide (c.op = 5) || decide (c.op = 6) then takeN s th c
 else bif decide (c.op = 7) || decide (c.op = 8) then mailM s th c
 else bif decide (c.op = 9) || decide (c.op = 10) then bellM s th c
 else leafM s th c
def ruleW (s : State) (th : Int) (l0 l1 l2 l3 : Int) : Res :=
 bif !sGood s then .bad 1 else bif !gOk l0 l1 l2 l3 then .bad 2 else ruleM s th (gCall l0 l1 l2 l3)
def Res.then (r : Res) (s : State) : State := r.st.getD s
def CapFrom (s u : State) : Prop := ∀ k, k < s.slots.length → u.non k →
 (∃ j, j < s.slots.length ∧ s.non j ∧ (u.slot k).cap.ty = (s.slot j).cap.ty ∧ (u.slot k).cap.th = (s.slot j).cap.th) ∨ ((u.slot k).cap.th.toNat < s.things.length ∧ (s.thing (u.slot k).cap.th.toNat).ty = 0)
structure Turn (s u : State) (th : Int) (c : Call) : Prop where
 inv : Inv u
 once : RoomOnce u
 geo : u.geo = s.geo
 lS : u.slots.length = s.slots.length
 lT : u.things.length = s.things.length
 from_ : CapFrom s u
 at_ : c.op ≠ 5 → c.op ≠ 6 → ∀ k, k < s.slots.length → (u.slot k).cap = (s.slot k).cap ∨ fSlot s th c.a = ((k : Int), 0) ∨ fSlot s th c.b = ((k : Int), 0)
theorem turn_same {s u : State} {th : Int} {c : Call} (o : RoomOnce s) (hu : Inv u) (hg : u.geo = s.geo) (hS : u.slots = s.slots) (hT : u.things.length = s.things.length) : Turn s u th c := by
 have hsl : ∀ k, u.slot k = s.slot k := fun k => by simp only [State.slot, hS]
 refine ⟨hu, fun i j hi hj h1 h2 h3 => ?_, hg, by rw [hS], hT, fun k hk hn => .inl ⟨k, hk, ?_, by rw [hsl], by rw [hsl]⟩, fun _ _ k _ => .inl (by rw [hsl])⟩
 ·rw [hS] at hi hj; rw [hsl] at h1 h3; rw [hsl] at h2 h3; exact o i j hi hj h1 h2 h3
 ·simp only [State.non, hsl] at hn ⊢; exact hn
theorem turn_put {s u : State} {th : Int} {c : Call} {fr to : Int} {x : Cap} (o : RoomOnce s) (he : putE s fr to x = 0) (hto : fSlot s th c.b = (to, 0)) (hu : Inv u) (hg : u.geo = s.geo) (hS : u.slots.length = s.slots.length) (hT : u.things.length = s.things.length)
 (hsl : ∀ k, u.slot k = if k = to.toNat then ⟨x, fr⟩ else s.slot k) : Turn s u th c := by
 obtain ⟨h, f0, f1, t0, t1, hc, hn, ho, hfn, hte, hty, hl, hr⟩ := putE_zero he
 obtain ⟨e1, e2⟩ := cLess_eq hl hn
 refine ⟨hu, fun i j hi hj h1 h2 h3 => ?_, hg, hS, hT, fun k hk hkn => .inl ?_, fun _ _ k hk => ?_⟩
 ·rw [hS] at hi hj
  rw [hsl] at h1 h3; rw [hsl] at h2 h3
  by_cases ei : i = to.toNat
  ·rw [if_pos ei] at h1; simp only at h1; omega
  ·by_cases ej : j = to.toNat
   ·rw [if_pos ej] at h2; simp only at h2; omega
   ·rw [if_neg ei] at h1 h3; rw [if_neg ej] at h2 h3; exact o i j hi hj h1 h2 h3
 ·rw [hsl]
  by_cases e : k = to.toNat
  ·rw [if_pos e]; exact ⟨fr.toNat, by omega, hfn, e1, e2⟩
  ·rw [if_neg e]
   exact ⟨k, hk, by rw [State.non, hsl, if_neg e] at hkn; exact hkn, rfl, rfl⟩
 ·rw [hsl]
  by_cases e : k = to.toNat
  ·right; right; rw [hto]; subst e; congr 1; omega
  ·rw [if_neg e]; exact .inl rfl
theorem turn_moved {s : State} {th : Int} {c : Call} {fr to : Nat} (o : RoomOnce s) (m : Moves s fr to) (h1 : fSlot s th c.a = ((fr : Int), 0)) (h2 : fSlot s th c.b = ((to : Int), 0)) : Turn s (movedS s fr to) th c := by
 have hc : ∀ k, k < s.slots.length → ((movedS s fr to).slot k).cap = if k = fr then .zero else if k = to then (s.slot fr).cap else (s.slot k).cap := fun k hk => by
  rw [m.slot hk]; split
  ·rfl
  ·split <;> rfl
 have hL : (movedS s fr to).slots.length = s.slots.length := movedS_len
 refine ⟨m.inv', fun i j hi hj a b d => ?_, rfl, hL, movedS_lenT, fun k hk hn => .inl ?_, fun _ _ k hk => ?_⟩
 ·rw [hL] at hi hj
  rw [hc i hi] at a d; rw [hc j hj] at b d
  have hne := m.ne
  by_cases i1 : i = fr
  ·rw [if_pos i1] at a; simp [Cap.zero] at a
  by_cases j1 : j = fr
  ·rw [if_pos j1] at b; simp [Cap.zero] at b
  rw [if_neg i1] at a d; rw [if_neg j1] at b d
  by_cases i2 : i = to
  ·by_cases j2 : j = to
   ·omega
   ·rw [if_pos i2] at a d; rw [if_neg j2] at b d
    exact absurd (o fr j m.hf hj a b d) (fun e => j1 e.symm)
  ·rw [if_neg i2] at a d
   by_cases j2 : j = to
   ·rw [if_pos j2] at b d
    exact absurd (o i fr hi m.hf a b d) i1
   ·rw [if_neg j2] at b d; exact o i j hi hj a b d
 ·simp only [State.non] at hn
  rw [hc k hk] at hn ⊢
  by_cases e1 : k = fr
  ·rw [if_pos e1] at hn; simp [cNone, Cap.zero] at hn
  rw [if_neg e1] at hn ⊢
  by_cases e2 : k = to
  ·rw [if_pos e2] at hn ⊢; exact ⟨fr, m.hf, hn, rfl, rfl⟩
  ·rw [if_neg e2] at hn ⊢; exact ⟨k, hk, hn, rfl, rfl⟩
 ·rw [hc k hk]
  by_cases e1 : k = fr
  ·subst e1; exact .inr (.inl h1)
  rw [if_neg e1]
  by_cases e2 : k = to
  ·subst e2; exact .inr (.inr h2)
  ·rw [if_neg e2]; exact .inl rfl
theorem turn_makes {s u : State} {th : Int} {c : Call} {fr to n r : Nat} {T R : Thing} (o : RoomOnce s) (m : Makes s u fr to n r T R) (hto : fSlot s th c.b = ((to : Int), 0)) : Turn s u th c := by
 have hfree : ∀ j, j < s.slots.length → s.non j → (s.slot j).cap.th ≠ (n : Int) := fun j hj hn e => by
  have := m.inv.capT j hj hn
  rw [e] at this
  have := this.1
  simp [sThere, m.hn0] at this
 refine ⟨m.inv', fun i j hi hj a b d => ?_, m.hg, m.hS, m.hT, fun k hk hn => ?_, fun _ _ k hk => ?_⟩
 ·rw [m.hS] at hi hj
  rw [m.hsl] at a d; rw [m.hsl] at b d
  by_cases ei : i = to
  ·by_cases ej : j = to
   ·omega
   ·rw [if_pos ei] at d; rw [if_neg ej] at b d
    exact absurd d.symm (hfree j hj (non_of (by omega)))
  ·rw [if_neg ei] at a d
   by_cases ej : j = to
   ·rw [if_pos ej] at d
    exact absurd d (hfree i hi (non_of (by omega)))
   ·rw [if_neg ej] at b d; exact o i j hi hj a b d
 ·rw [m.hsl]
  by_cases e : k = to
  ·rw [if_pos e]; right; exact ⟨by simpa using m.hn, by simpa using m.hn0⟩
  ·rw [if_neg e]; left
   exact ⟨k, hk, by rw [State.non, m.hsl, if_neg e] at hn; exact hn, rfl, rfl⟩
 ·rw [m.hsl]
  by_cases e : k = to
  ·subst e; exact .inr (.inr hto)
  ·rw [if_neg e]; exact .inl rfl
theorem turn_take {s : State} {th : Int} {c : Call} {l : List Int} (inv : Inv s) (o : RoomOnce s) (h5 : c.op = 5 ∨ c.op = 6) : Turn s (takeE s l).1 th c := by
 obtain ⟨a, b⟩ := takeE_inv inv o l
 have hr := (way_takeE inv l).1.1
 have hl : (takeE s l).1.geo = s.geo ∧ (takeE s l).1.things.length = s.things.length := by
  have h1 := empties_less (s := s) (n := 0) (l := l)
  have : ∀ m (u : State) (n : Int), Less s u → BitsOk u → (passes m u n).1.geo = s.geo ∧ (passes m u n).1.things.length = s.things.length := by
   intro m
   induction m with
   | zero => intro u n h _; exact ⟨h.geo, h.lT⟩
   | succ m ih =>
    intro u n h hb
    have h2 := round_less (n := n) hb u.things.length (Nat.le_refl _)
    have h3 := h.trans h2.1
    rw [passes, pass_rounds]
    cases (rounds u n u.things.length).2.2 with
    | false => exact ⟨h3.geo, h3.lT⟩
    | true => exact ih _ _ h3 (h2.1.bits hb)
  exact this _ _ _ h1 (h1.bits (bits_good inv))
 refine ⟨a, b, hl.1, hr.lS, hl.2, fun k hk hn => .inl ?_, fun h h' => absurd h5 (by omega)⟩
 rcases hr.cap k hk with hz | ⟨_, hc, _⟩
 ·have := non_zero hz; simp only [State.non, this] at hn; cases hn
 ·refine ⟨k, hk, ?_, by rw [hc], by rw [hc]⟩
  simp only [State.non, hc] at hn ⊢; exact hn
theorem ruleM_turn {s u : State} {th : Int} {c : Call} (o : RoomOnce s) (h : (ruleM s th c).st = some u) : Inv s ∧ Turn s u th c := by
 simp only [ruleM] at h
 cases hg : (sGood s && (callGood c && inB th 0 (s.geo.threads - 1))) with
 | false => rw [hg] at h; simp [Res.bad] at h
 | true =>
 rw [hg] at h
 simp only [Bool.not_true, cond_false] at h
 have inv : Inv s := by simp only [Bool.and_eq_true] at hg; exact inv_iff.1 hg.1
 refine ⟨inv, ?_⟩
 by_cases h1 : c.op = 1
 ·rw [decide_eq_true h1] at h
  simp only [cond_true] at h
  obtain ⟨T, R, m, _⟩ := carve_makes h
  have h4 := (carveM_some h).2.2.2.2.1
  obtain ⟨_, b1, b2, _, _, b5⟩ := fEmpty_ok h4
  exact turn_makes o m (by rw [b5]; congr 1; omega)
 rw [decide_eq_false h1] at h
 simp only [cond_false] at h
 cases h2 : (decide (c.op = 2) || (decide (c.op = 3) || decide (c.op = 4))) with
 | true =>
  rw [h2] at h
  simp only [cond_true] at h
  obtain ⟨_, g2, g3, _, g5⟩ := giveM_some h
  obtain ⟨_, a1, a2, a3, a4, a5⟩ := fCap_ok g2
  obtain ⟨_, b1, b2, b3, b4, b5⟩ := fEmpty_ok g3
  rcases g5 with ⟨_, g6, rfl⟩ | ⟨_, x, g6, rfl, _⟩
  ·have m := moves_of g2 g3 g6
   have := turn_moved (th := th) (c := c) o m (by rw [a5]; congr 1; omega) (by rw [b5]; congr 1; omega)
   rw [Int.toNat_of_nonneg a1, Int.toNat_of_nonneg b1] at this
   exact this
  ·exact turn_put o g6 b5 (putS_inv g6) rfl (by simp [putS]) rfl (fun k => slot_set (by omega))
 | false =>
 rw [h2] at h
 simp only [cond_false] at h
 cases h5 : (decide (c.op = 5) || decide (c.op = 6)) with
 | true =>
  rw [h5] at h
  simp only [cond_true] at h
  have h5' : c.op = 5 ∨ c.op = 6 := by simpa using h5
  simp only [takeN] at h
  cases k1 : (!callGood c || !decide (c.op = 5) && !decide (c.op = 6)) with
  | true => rw [k1] at h; simp [Res.bad] at h
  | false =>
  rw [k1] at h
  cases k2 : (!decide ((fCap s th c.a).2.2 = 0)) with
  | true => rw [k2] at h; simp [Res.bad] at h
  | false =>
  rw [k2] at h
  cases k3 : decide (c.op = 6) with
  | true => rw [k3] at h; simp only [cond_false, cond_true, Option.some.injEq] at h; subst h; exact turn_take inv o h5'
  | false => rw [k3] at h; simp only [cond_false, Option.some.injEq] at h; subst h; exact turn_take inv o h5'
 | false =>
 rw [h5] at h
 simp only [cond_false] at h
 cases h7 : (decide (c.op = 7) || decide (c.op = 8)) with
 | true =>
  rw [h7] at h
  simp only [cond_true] at h
  by_cases e7 : c.op = 7
  ·obtain ⟨_, a, b, _⟩ := send_like h e7
   exact turn_same o a b.geo b.slots b.len
  ·have e8 : c.op = 8 := by simp at h7; omega
   have hr := recv_inv h e8
   obtain ⟨g1, g2, g3, g4⟩ := mailM_some h
   rcases g4 with ⟨g5, -⟩ | ⟨-, g5, g6⟩
   ·omega
   rw [g6] at h
   obtain ⟨k1, k2⟩ := recvM_some h
   rcases k2 with ⟨k2, -⟩ | ⟨k2, k3, k4, k5⟩
   ·rw [k2] at h
    simp only [recvIn, Option.some.injEq] at h
    subst h
    exact turn_same o hr.1 rfl rfl (by simp [boxed])
   ·rw [k5] at h
    simp only [recvIn, Option.some.injEq] at h
    subst h
    obtain ⟨_, b1, b2, b3, b4, b5⟩ := fEmpty_ok k3
    exact turn_put o k4 b5 hr.1 rfl (by simp [boxed, putS]) (by simp [boxed, putS]) (fun k => slot_set (by omega))
 | false =>
 rw [h7] at h
 simp only [cond_false] at h
 cases h9 : (decide (c.op = 9) || decide (c.op = 10)) with
 | true =>
  rw [h9] at h
  simp only [cond_true] at h
  obtain ⟨_, g2, g4, _, g5⟩ := bellM_some h
  obtain ⟨b1, b2, _, _⟩ := fCap_box g2
  have hne : (s.thing (fCap s th c.a).2.1.th.toNat).ty ≠ 2 := by rw [b2, g4]; decide
  have hb : ∀ w, Inv (boxed s (fCap s th c.a).2.1.th { s.thing (fCap s th c.a).2.1.th.toNat with word := w }) := fun w =>
   have hh := bellT_good (inv.tGood _ b1) (by rw [b2, g4]) w
   boxed_inv inv b1 hne rfl hh.1 (fun h0 => by have := hh.2; simp only at h0; omega)
  rcases g5 with ⟨_, _, _, rfl⟩ | ⟨_, rfl⟩
  ·exact turn_same o (hb _) rfl rfl (by simp [boxed])
  ·exact turn_same o (hb _) rfl rfl (by simp [boxed])
 | false =>
  rw [h9] at h
  simp only [cond_false] at h
  obtain ⟨_, _, g2, g5, _, rfl⟩ := leafM_some h
  obtain ⟨b1, b2, _, _⟩ := fCap_box g2
  have hne : (s.thing (fCap s th c.a).2.1.th.toNat).ty ≠ 2 := by rw [b2, g5]; decide
  obtain ⟨q1, q2, q3⟩ := leafT_good (inv.tGood _ b1) (by rw [b2, g5]) c.x c.w
  exact turn_same o (boxed_inv inv b1 hne (by rw [q3, b2, g5]) q1 (fun h0 => by omega)) rfl rfl (by simp [boxed])
theorem takeE_less {s : State} (inv : Inv s) (l : List Int) : Less s (takeE s l).1 := by
 have h1 := empties_less (s := s) (n := 0) (l := l)
 have : ∀ m (u : State) (n : Int), Less s u → BitsOk u → Less s (passes m u n).1 := by
  intro m
  induction m with
  | zero => intro u n h _; exact h
  | succ m ih =>
   intro u n h hb
   have h2 := round_less (n := n) hb u.things.length (Nat.le_refl _)
   have h3 := h.trans h2.1
   rw [passes, pass_rounds]
   cases (rounds u n u.things.length).2.2 with
   | false => exact h3
   | true => exact ih _ _ h3 (h2.1.bits hb)
 exact this _ _ _ h1 (h1.bits (bits_good inv))
theorem ruleM_lens {s u : State} {th : Int} {c : Call} (h : (ruleM s th c).st = some u) : u.geo = s.geo ∧ u.slots.length = s.slots.length ∧ u.things.length = s.things.length ∧ (ruleM s th c).err = 0 := by
 simp only [ruleM] at h ⊢
 cases hg : (sGood s && (callGood c && inB th 0 (s.geo.threads - 1))) with
 | false => rw [hg] at h; simp [Res.bad] at h
 | true =>
 rw [hg] at h
 simp only [Bool.not_true, cond_false] at h ⊢
 have inv : Inv s := by simp only [Bool.and_eq_true] at hg; exact inv_iff.1 hg.1
 by_cases h1 : c.op = 1
 ·rw [decide_eq_true h1] at h ⊢
  simp only [cond_true] at h ⊢
  obtain ⟨T, R, m, _⟩ := carve_makes h
  refine ⟨m.hg, m.hS, m.hT, ?_⟩
  rw [(carveM_some h).2.2.2.2.2.2.2.2.2.1]
 rw [decide_eq_false h1] at h ⊢
 simp only [cond_false] at h ⊢
 cases h2 : (decide (c.op = 2) || (decide (c.op = 3) || decide (c.op = 4))) with
 | true =>
  rw [h2] at h
  simp only [cond_true] at h ⊢
  obtain ⟨_, g2, g3, g4, g5⟩ := giveM_some h
  rw [g4]
  rcases g5 with ⟨_, g6, rfl⟩ | ⟨_, x, g6, rfl, _⟩
  ·exact ⟨rfl, movedS_len, movedS_lenT, rfl⟩
  ·exact ⟨rfl, by simp [putS], rfl, rfl⟩
 | false =>
 rw [h2] at h
 simp only [cond_false] at h ⊢
 cases h5 : (decide (c.op = 5) || decide (c.op = 6)) with
 | true =>
  rw [h5] at h
  simp only [cond_true] at h ⊢
  simp only [takeN] at h ⊢
  cases k1 : (!callGood c || !decide (c.op = 5) && !decide (c.op = 6)) with
  | true => rw [k1] at h; simp [Res.bad] at h
  | false =>
  rw [k1] at h
  cases k2 : (!decide ((fCap s th c.a).2.2 = 0)) with
  | true => rw [k2] at h; simp [Res.bad] at h
  | false =>
  rw [k2] at h
  cases k3 : decide (c.op = 6) with
  | true => rw [k3] at h; simp only [cond_false, cond_true, Option.some.injEq] at h ⊢; subst h; exact ⟨(takeE_less inv _).geo, (takeE_less inv _).lS, (takeE_less inv _).lT, trivial⟩
  | false => rw [k3] at h; simp only [cond_false, Option.some.injEq] at h ⊢; subst h; exact ⟨(takeE_less inv _).geo, (takeE_less inv _).lS, (takeE_less inv _).lT, trivial⟩
 | false =>
 rw [h5] at h
 simp only [cond_false] at h ⊢
 cases h7 : (decide (c.op = 7) || decide (c.op = 8)) with
 | true =>
  rw [h7] at h
  simp only [cond_true] at h ⊢
  by_cases e7 : c.op = 7
  ·obtain ⟨_, a, b, e, _⟩ := send_like h e7
   rw [e]
   exact ⟨b.geo, by rw [b.slots], b.len, rfl⟩
  ·have e8 : c.op = 8 := by simp at h7; omega
   have hr := recv_inv h e8
   exact ⟨hr.2.2.2.1, hr.2.2.1, hr.2.2.2.2.1, hr.2.1⟩
 | false =>
 rw [h7] at h
 simp only [cond_false] at h ⊢
 cases h9 : (decide (c.op = 9) || decide (c.op = 10)) with
 | true =>
  rw [h9] at h
  simp only [cond_true] at h ⊢
  obtain ⟨_, g2, g4, g5, g6⟩ := bellM_some h
  rw [g5]
  rcases g6 with ⟨_, _, _, rfl⟩ | ⟨_, rfl⟩
  ·exact ⟨rfl, rfl, by simp [boxed], rfl⟩
  ·exact ⟨rfl, rfl, by simp [boxed], rfl⟩
 | false =>
  rw [h9] at h
  simp only [cond_false] at h ⊢
  obtain ⟨_, _, g2, g5, g6, rfl⟩ := leafM_some h
  rw [g6]
  exact ⟨rfl, rfl, by simp [boxed], rfl⟩
def NoRoot (s : State) : Prop := ∀ k, k < s.slots.length → s.non k → rootB s (s.slot k).cap.th.toNat = false
theorem Turn.noRoot {s u : State} {th : Int} {c : Call} (t : Turn s u th c) (inv : Inv s) (h : NoRoot s) : NoRoot u := by
 intro k hk hn
 rw [t.lS] at hk
 have e : ∀ x, rootB u x = rootB s x := fun x => by simp only [rootB, t.geo]
 rw [e]
 rcases t.from_ k hk hn with ⟨j, hj, a, _, b⟩ | ⟨a, b⟩
 ·rw [b]; exact h j hj a
 ·cases hr : rootB s (u.slot k).cap.th.toNat with
  | false => rfl
  | true => have := inv.root _ a hr; rw [this] at b; simp [rootT] at b
theorem walk_node {s : State} (inv : Inv s) (h : NoRoot s) : ∀ (p : List Int) (i : Int) (m : Nat), 0 ≤ i → i < s.slots.length → (∀ n ∈ p, 0 ≤ n) → m < s.things.length → tHas (s.thing m) i = true → (fWalk s p i).2 = 0 →
 ∃ n, n < s.things.length ∧ tHas (s.thing n) (fWalk s p i).1 = true ∧ (n = m ∨ rootB s n = false)
 | [], i, m, _, _, _, hm, hh, _ => ⟨m, hm, hh, .inl rfl⟩
 | a :: p, i, m, h0, h1, hp, hm, hh, he => by
  simp only [fWalk] at he ⊢
  cases hc : (throughB s i && !decide (stepI (s.thing (s.slot i.toNat).cap.th.toNat) a < 0)) with
  | false => rw [hc] at he; simp at he
  | true =>
   rw [hc] at he
   simp only [cond_true] at he ⊢
   simp only [Bool.and_eq_true, Bool.not_eq_true', decide_eq_false_iff_not] at hc
   obtain ⟨n1, n2⟩ := through_node inv.ok h0 h1 hc.1
   have ha : 0 ≤ a := hp a List.mem_cons_self
   have hst : stepI (s.thing (s.slot i.toNat).cap.th.toNat) a = (s.thing (s.slot i.toNat).cap.th.toNat).base + a ∧ a < p2 (s.thing (s.slot i.toNat).cap.th.toNat).bits := by
    have hs := hc.2
    simp only [stepI] at hs ⊢
    by_cases hb : p2 (s.thing (s.slot i.toNat).cap.th.toNat).bits ≤ a
    ·rw [decide_eq_true hb] at hs; simp at hs
    ·rw [decide_eq_false hb]; exact ⟨rfl, by omega⟩
   have hlt := stepI_lt inv.ok n1 n2 ha
   have hth : tHas (s.thing (s.slot i.toNat).cap.th.toNat) (stepI (s.thing (s.slot i.toNat).cap.th.toNat) a) = true := by
    rw [hst.1, tHas_iff]; exact ⟨n2, by omega, by omega⟩
   obtain ⟨n, a1, a2, a3⟩ := walk_node inv h p _ _ (by omega) (by omega) (fun n hn => hp n (List.mem_cons_of_mem _ hn)) n1 hth he
   refine ⟨n, a1, a2, ?_⟩
   rcases a3 with rfl | a3
   ·right
    have hty : (s.slot i.toNat).cap.ty = 2 := by
     have := hc.1; simp only [throughB, Bool.and_eq_true, decide_eq_true_eq] at this; exact this.1
    exact h i.toNat (by omega) (non_of (by omega))
   ·exact .inr a3
theorem slot_node {s : State} (inv : Inv s) (h : NoRoot s) {th : Int} {p : List Int} {k : Nat} (e : fSlot s th p = ((k : Int), 0)) :
 0 ≤ th ∧ th < s.geo.threads ∧ ∃ n, n < s.things.length ∧ tHas (s.thing n) (k : Int) = true ∧ (n = (2 + th).toNat ∨ rootB s n = false) := by
 have h2 : (fSlot s th p).2 = 0 := by rw [e]
 obtain ⟨ok, hin, hp, _, _⟩ := fSlot_ok h2
 rw [inB_iff] at hin
 refine ⟨hin.1, by omega, ?_⟩
 obtain ⟨r1, r2⟩ := root_node ok hin.1 hin.2
 have hpp := pGood_pos hp
 have hg : sGood s = true := ok.good
 have hin' : inB th 0 (s.geo.threads - 1) = true := inB_iff.2 hin
 simp only [fSlot, hg, hin', hp, Bool.and_self, cond_true] at e
 cases p with
 | nil => simp [pGood] at hp
 | cons a p =>
  simp only [fFirst] at e
  cases hc : (!decide (stepI (s.thing (2 + th).toNat) a < 0)) with
  | false => rw [hc] at e; simp at e
  | true =>
   rw [hc] at e
   simp only [cond_true] at e
   simp only [Bool.not_eq_true', decide_eq_false_iff_not] at hc
   have ha : 0 ≤ a := hpp a List.mem_cons_self
   have hst : stepI (s.thing (2 + th).toNat) a = (s.thing (2 + th).toNat).base + a ∧ a < p2 (s.thing (2 + th).toNat).bits := by
    simp only [stepI] at hc ⊢
    by_cases hb : p2 (s.thing (2 + th).toNat).bits ≤ a
    ·rw [decide_eq_true hb] at hc; simp at hc
    ·rw [decide_eq_false hb]; exact ⟨rfl, by omega⟩
   have hlt := stepI_lt ok r1 r2 ha
   have hth : tHas (s.thing (2 + th).toNat) (stepI (s.thing (2 + th).toNat) a) = true := by
    have hn := node_fine ok r1 r2
    rw [hst.1, tHas_iff]; exact ⟨r2, by omega, by omega⟩
   obtain ⟨n, a1, a2, a3⟩ := walk_node inv h p _ _ (by omega) (by omega) (fun n hn => hpp n (List.mem_cons_of_mem _ hn)) r1 hth (by rw [e])
   rw [e] at a2
   exact ⟨n, a1, a2, a3⟩
theorem slot_apart {s : State} (inv : Inv s) (h : NoRoot s) {th o : Int} {p : List Int} {k : Nat} (e : fSlot s th p = ((k : Int), 0)) (h0 : 0 ≤ o) (h1 : o < s.geo.threads) (hne : o ≠ th) (hk : 8 * o ≤ k ∧ (k : Int) < 8 * o + 8) : False := by
 obtain ⟨t0, t1, n, a, b, c⟩ := slot_node inv h e
 have hgb := gGood_bb inv.geo
 have hlT := inv.lenT
 have hro : (2 + o).toNat < s.things.length ∧ rootB s (2 + o).toNat = true := by
  refine ⟨by omega, ?_⟩
  simp only [rootB, Bool.and_eq_true, decide_eq_true_eq]; omega
 have hr := inv.root _ hro.1 hro.2
 have hb : tHas (s.thing (2 + o).toNat) (k : Int) = true := by
  rw [hr, tHas_iff]
  have e1 : gRoot s.geo (((2 + o).toNat : Int) - 2) = 8 * o := by
   simp only [gRoot, inv.geo, Bool.true_and]
   have : inB (((2 + o).toNat : Int) - 2) 0 (s.geo.threads - 1) = true := by rw [inB_iff]; omega
   rw [this]; simp only [cond_true]; omega
  have e8 : p2 3 = 8 := by simp [p2]
  simp only [rootT, e1, e8]
  exact ⟨trivial, hk.1, hk.2⟩
 have hnn : n ≠ (2 + o).toNat := by
  rcases c with rfl | c
  ·omega
  ·rintro rfl; rw [hro.2] at c; cases c
 rcases Nat.lt_or_gt_of_ne hnn with hlt | hlt
 ·exact inv.apart _ hro.1 n hlt k hb b
 ·exact inv.apart n a _ hlt k b hb
end Go.Ax.M
