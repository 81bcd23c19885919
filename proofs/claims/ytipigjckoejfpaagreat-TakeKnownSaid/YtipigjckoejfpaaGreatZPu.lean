/- Texts put behind one another: PInv, PGood, PMail, PGive, PMove, PBadge, PTake, PTake3, PBelow, PBell, PCarve. Conditions: none. -/
import Derived.Test.YtipigjckoejfpaaGreatZMo
import Derived.KernelRfl
import Derived.Test.YtipigjckoejfpaaGreatMTakeZ
import Derived.Test.YtipigjckoejfpaaGreatAxSortZ
set_option linter.unusedSimpArgs false
set_option linter.unusedVariables false
/- What a state that may be is, in plain words. No program in sight. Conditions: none. -/
namespace Go.Ax.M
open Go Go.Ax

def Edge (s : State) (n m : Int) : Prop := 0 ≤ n ∧ ∃ i : Nat, i < s.slots.length ∧ (s.slot i).cap.ty = 2 ∧ tHas (s.thing n.toNat) i = true ∧ sThere s (s.slot i).cap.th = true ∧ (s.slot i).cap.th = m

inductive Reach (s : State) : Int → Int → Prop
  | refl {n : Int} : Reach s n n
  | step {n m k : Int} (h : Edge s n m) (r : Reach s m k) : Reach s n k

theorem Reach.trans {s : State} {n m k : Int} (a : Reach s n m) (b : Reach s m k) : Reach s n k := by
  induction a with
  | refl => exact b
  | step h _ ih => exact .step h (ih b)
theorem Reach.one {s : State} {n m : Int} (h : Edge s n m) : Reach s n m := .step h .refl
theorem Reach.mono {s u : State} {n m : Int} (h : ∀ n m, Edge s n m → Edge u n m) (r : Reach s n m) : Reach u n m := by
  induction r with
  | refl => exact .refl
  | step e _ ih => exact .step (h _ _ e) ih

theorem within_fold_sound {s : State} {f : Int → List Int → List Int} {node : Int} (h0 : 0 ≤ node) (hf : ∀ t l x, 0 ≤ t → x ∈ f t l → x ∈ l ∨ Reach s t x) :
    ∀ (L : List Nat) (l : List Int) {x : Int}, (∀ i ∈ L, i < s.slots.length) → x ∈ L.foldl (withinStep s f node) l → x ∈ l ∨ Reach s node x
  | [], l, x, _, h => .inl h
  | i :: L, l, x, hL, h => by
    rw [List.foldl_cons] at h
    rcases within_fold_sound h0 hf L _ (fun j hj => hL j (List.mem_cons_of_mem _ hj)) h with h | h
    · simp only [withinStep] at h
      cases hc : (decide ((s.slot i).cap.ty = 2) && (tHas (s.thing node.toNat) i && sThere s (s.slot i).cap.th)) with
      | false => rw [hc] at h; exact .inl h
      | true =>
        rw [hc] at h
        simp only [cond_true] at h
        simp only [Bool.and_eq_true, decide_eq_true_eq] at hc
        have h0' : 0 ≤ (s.slot i).cap.th := by have := hc.2.2; simp [sThere] at this; exact this.1
        rcases hf _ _ _ h0' h with h | h
        · exact .inl h
        · exact .inr (.step ⟨h0, i, hL i List.mem_cons_self, hc.1, hc.2.1, hc.2.2, rfl⟩ h)
    · exact .inr h

theorem within_sound {s : State} : ∀ (n : Nat) (node : Int) (l : List Int) {x : Int}, 0 ≤ node → x ∈ withinF s n node l → x ∈ l ∨ Reach s node x
  | 0, _, _, _, _, h => .inl h
  | n + 1, node, l, x, h0, h => by
    rw [withinF] at h
    cases hc : l.contains node with
    | true => rw [hc] at h; exact .inl h
    | false =>
      rw [hc] at h
      simp only [cond_false] at h
      rcases within_fold_sound h0 (fun t l x h1 => within_sound n t l h1) _ _ (fun i hi => List.mem_range.1 hi) h with h | h
      · rcases List.mem_append.1 h with h | h
        · exact .inl h
        · simp at h; subst h; exact .inr .refl
      · exact .inr h

structure Done (s : State) (l l' : List Int) : Prop where
  sub : ∀ x ∈ l, x ∈ l'
  shut : ∀ x ∈ l', x ∉ l → ∀ y, Edge s x y → y ∈ l'

theorem Done.refl {s : State} {l : List Int} : Done s l l := ⟨fun _ h => h, fun _ h hn => absurd h hn⟩
theorem Done.trans {s : State} {l m k : List Int} (a : Done s l m) (b : Done s m k) : Done s l k :=
  ⟨fun x h => b.sub x (a.sub x h), fun x h hn y e => by
    by_cases hm : x ∈ m
    · exact b.sub y (a.shut x hm hn y e)
    · exact b.shut x h hm y e⟩

theorem lacks_mono {s : State} {l l' : List Int} (h : ∀ x ∈ l, x ∈ l') : lacks s l' ≤ lacks s l := by
  unfold lacks
  refine List.countP_mono_left fun x _ hx => ?_
  simp at hx ⊢
  exact fun h' => hx (h _ h')

theorem within_fold_done {s : State} {f : Int → List Int → List Int} {node : Int} {n : Nat} (hf : ∀ t l, sThere s t = true → lacks s l < n → Done s l (f t l) ∧ t ∈ f t l) :
    ∀ (L : List Nat) (l : List Int), lacks s l < n → Done s l (L.foldl (withinStep s f node) l) ∧
      ∀ i ∈ L, (s.slot i).cap.ty = 2 → tHas (s.thing node.toNat) i = true → sThere s (s.slot i).cap.th = true → (s.slot i).cap.th ∈ L.foldl (withinStep s f node) l
  | [], l, _ => ⟨.refl, fun i hi => by cases hi⟩
  | i :: L, l, hl => by
    rw [List.foldl_cons]
    have h1 : Done s l (withinStep s f node l i) ∧ ((s.slot i).cap.ty = 2 → tHas (s.thing node.toNat) i = true → sThere s (s.slot i).cap.th = true → (s.slot i).cap.th ∈ withinStep s f node l i) := by
      simp only [withinStep]
      cases hc : (decide ((s.slot i).cap.ty = 2) && (tHas (s.thing node.toNat) i && sThere s (s.slot i).cap.th)) with
      | false =>
        refine ⟨.refl, fun a b c => ?_⟩
        simp [a, b, c] at hc
      | true =>
        simp only [Bool.and_eq_true, decide_eq_true_eq] at hc
        have := hf _ l hc.2.2 hl
        exact ⟨this.1, fun _ _ _ => this.2⟩
    have h2 := within_fold_done (node := node) hf L (withinStep s f node l i) (Nat.lt_of_le_of_lt (lacks_mono h1.1.sub) hl)
    refine ⟨h1.1.trans h2.1, fun j hj a b c => ?_⟩
    rcases List.mem_cons.1 hj with rfl | hj
    · exact h2.1.sub _ (h1.2 a b c)
    · exact h2.2 j hj a b c

theorem within_done {s : State} : ∀ (n : Nat) (node : Int) (l : List Int), sThere s node = true → lacks s l < n → Done s l (withinF s n node l) ∧ node ∈ withinF s n node l
  | 0, _, _, _, h => absurd h (Nat.not_lt_zero _)
  | n + 1, node, l, ht, hl => by
    rw [withinF]
    cases hc : l.contains node with
    | true => exact ⟨.refl, by simpa using hc⟩
    | false =>
      simp only [cond_false]
      have ht' := ht
      simp [sThere] at ht'
      have h1 : lacks s (l ++ [node]) < lacks s l := lacks_lt (fun x h => List.mem_append_left _ h) ht'.1 ht'.2.1 hc (by simp)
      have h2 := within_fold_done (s := s) (node := node) (fun t l a b => within_done n t l a b) (List.range s.slots.length) (l ++ [node]) (by omega)
      refine ⟨⟨fun x h => h2.1.sub x (List.mem_append_left _ h), fun x h hn y e => ?_⟩, h2.1.sub _ (by simp)⟩
      by_cases hx : x = node
      · subst hx
        obtain ⟨-, i, hi, a, b, c, rfl⟩ := e
        exact h2.2 i (List.mem_range.2 hi) a b c
      · exact h2.1.shut x h (by simp [hn, hx]) y e

theorem within_iff {s : State} {node x : Int} (ht : sThere s node = true) : x ∈ withinF s (s.things.length + 1) node [] ↔ Reach s node x := by
  constructor
  · intro h
    rcases within_sound _ _ _ (by have := ht; simp [sThere] at this; exact this.1) h with h | h
    · cases h
    · exact h
  · intro r
    have h := within_done (s.things.length + 1) node [] ht (Nat.lt_succ_of_le lacks_le)
    have : ∀ {a b : Int}, Reach s a b → a ∈ withinF s (s.things.length + 1) node [] → b ∈ withinF s (s.things.length + 1) node [] := by
      intro a b r
      induction r with
      | refl => exact id
      | step e _ ih => exact fun ha => ih (h.1.shut _ ha (by simp) _ e)
    exact this r h.2
theorem sInside_iff {s : State} {node slot : Int} : sInside s node slot = true ↔ sThere s node = true ∧ (s.thing node.toNat).ty = 2 ∧ Reach s node (sOwner s slot) := by
  simp only [sInside, Bool.and_eq_true, decide_eq_true_eq, List.contains_eq_mem]
  constructor
  · rintro ⟨a, b, c⟩; exact ⟨a, b, (within_iff a).1 c⟩
  · rintro ⟨a, b, c⟩; exact ⟨a, b, (within_iff a).2 c⟩

def fitN (s : State) (k : Nat) : Prop := (s.thing k).ty = 2 → (s.thing k).base + p2 (s.thing k).bits ≤ s.slots.length
def apartN (s : State) (k j : Nat) : Prop := ∀ i : Nat, tHas (s.thing k) i = true → tHas (s.thing j) i = true → False

def MarkSpec (b : Int) (had : List Bool) (n : Nat) : Option (List Bool) → Prop
  | some h => h.length = had.length ∧ (n = 0 ∨ b + n ≤ had.length) ∧ (∀ j, j < n → had.getD (b.toNat + j) false = false) ∧ ∀ i, h.getD i false = (had.getD i false || (decide (b.toNat ≤ i) && decide (i < b.toNat + n)))
  | none => ¬ (b + n ≤ had.length) ∨ ∃ j, j < n ∧ had.getD (b.toNat + j) false = true

theorem getD_set {h : List Bool} {k i : Nat} (hk : k < h.length) : (h.set k true).getD i false = (h.getD i false || decide (i = k)) := by
  simp only [List.getD]
  by_cases e : i = k
  · subst e; simp [hk]
  · rw [List.getElem?_set_ne (fun h => e h.symm)]; simp [e]

theorem marks_spec {b : Int} (hb : 0 ≤ b) {had : List Bool} : ∀ n : Nat, MarkSpec b had n (marks b had n)
  | 0 => by
    simp [marks, MarkSpec]
    intro i h1 h2; omega
  | n + 1 => by
    have ih := marks_spec hb (had := had) n
    rw [marks_succ]
    cases e : marks b had n with
    | none =>
      rw [e] at ih
      simp only [markStep, MarkSpec] at ih ⊢
      rcases ih with h | ⟨j, h1, h2⟩
      · left; omega
      · exact .inr ⟨j, by omega, h2⟩
    | some h =>
      rw [e] at ih
      obtain ⟨h1, h2, h3, h4⟩ := ih
      have hn : (b + (n : Int)).toNat = b.toNat + n := by omega
      simp only [markStep, hn]
      by_cases hc : b + (n : Int) < h.length
      · cases hg : h.getD (b.toNat + n) false with
        | false =>
          simp only [hc, decide_true, Bool.not_false, Bool.and_self, cond_true, MarkSpec]
          have h5 : had.getD (b.toNat + n) false = false := by
            have := h4 (b.toNat + n)
            rw [hg] at this
            simp at this
            simp [this]
          refine ⟨by simp [h1], .inr (by omega), fun j hj => ?_, fun i => ?_⟩
          · by_cases e : j = n
            · subst e; exact h5
            · exact h3 j (by omega)
          · rw [getD_set (by omega), h4 i, Bool.or_assoc]
            congr 1
            rw [Bool.eq_iff_iff]
            simp
            omega
        | true =>
          simp only [Bool.not_true, Bool.and_false, cond_false, MarkSpec]
          refine .inr ⟨n, by omega, ?_⟩
          have := h4 (b.toNat + n)
          rw [hg] at this
          simpa using this.symm
      · simp only [hc, decide_false, Bool.false_and, cond_false, MarkSpec]
        left; omega

def NodeSpec (s : State) (k : Nat) : Option (List Bool) → Prop
  | some h => h.length = s.slots.length ∧ (∀ n, n < k → fitN s n) ∧ (∀ n, n < k → ∀ m, m < n → apartN s n m) ∧ ∀ i : Nat, i < s.slots.length → (h.getD i false = true ↔ ∃ n, n < k ∧ tHas (s.thing n) i = true)
  | none => ¬ ((∀ n, n < k → fitN s n) ∧ (∀ n, n < k → ∀ m, m < n → apartN s n m))

theorem tHas_iff {t : Thing} {i : Int} : tHas t i = true ↔ t.ty = 2 ∧ t.base ≤ i ∧ i < t.base + p2 t.bits := by simp [tHas]

theorem nodes_spec {s : State} (ok : ThingsOk s) : ∀ k : Nat, k ≤ s.things.length → NodeSpec s k (nodesHad s k)
  | 0, _ => by
    simp only [nodesHad, List.range_zero, List.foldl_nil, NodeSpec]
    refine ⟨by simp, by simp, by simp, fun i hi => ?_⟩
    simp [List.getD, hi]
  | k + 1, hk => by
    have ih := nodes_spec ok k (by omega)
    rw [nodesHad_succ]
    cases e : nodesHad s k with
    | none =>
      rw [e] at ih
      have : nodeStep s none k = none := by simp only [nodeStep]; rw [mark_none]; cases decide ((s.thing k).ty = 2) <;> rfl
      rw [this]
      simp only [NodeSpec] at ih ⊢
      exact fun ⟨a, b⟩ => ih ⟨fun n hn => a n (by omega), fun n hn => b n (by omega)⟩
    | some h =>
      rw [e] at ih
      obtain ⟨h1, h2, h3, h4⟩ := ih
      simp only [nodeStep]
      by_cases ht : (s.thing k).ty = 2
      · have hg := tGood_node (ok k hk) ht
        have hp := p2_bits hg.1
        simp only [ht, decide_true, cond_true]
        have hm := marks_spec hg.2.1 (had := h) (p2 (s.thing k).bits).toNat
        have hpc : (((p2 (s.thing k).bits).toNat : Nat) : Int) = p2 (s.thing k).bits := by omega
        change NodeSpec s (k + 1) (marks (s.thing k).base h (p2 (s.thing k).bits).toNat)
        cases em : marks (s.thing k).base h (p2 (s.thing k).bits).toNat with
        | none =>
          rw [em] at hm
          simp only [MarkSpec, NodeSpec] at hm ⊢
          rintro ⟨a, b⟩
          rcases hm with hm | ⟨j, hj, hm⟩
          · have := a k (by omega) ht
            omega
          · have hf := a k (by omega) ht
            have hlt : (s.thing k).base.toNat + j < s.slots.length := by omega
            obtain ⟨n, hn, hh⟩ := (h4 _ hlt).1 hm
            exact b k (by omega) n hn _ (tHas_iff.2 ⟨ht, by omega, by omega⟩) hh
        | some h' =>
          rw [em] at hm
          obtain ⟨m1, m2, m3, m4⟩ := hm
          simp only [NodeSpec]
          refine ⟨by omega, fun n hn => ?_, fun n hn m hm => ?_, fun i hi => ?_⟩
          · by_cases e : n = k
            · subst e; intro _; omega
            · exact h2 n (by omega)
          · by_cases e : n = k
            · subst e
              intro i a b
              rw [tHas_iff] at a
              have hlt : i < s.slots.length := by omega
              have := (h4 i hlt).2 ⟨m, hm, b⟩
              have h6 := m3 (i - (s.thing n).base.toNat) (by omega)
              rw [show (s.thing n).base.toNat + (i - (s.thing n).base.toNat) = i by omega, this] at h6
              cases h6
            · exact h3 n (by omega) m hm
          · rw [m4 i]
            simp only [Bool.or_eq_true, Bool.and_eq_true, decide_eq_true_eq, h4 i hi]
            constructor
            · rintro (⟨n, hn, a⟩ | a)
              · exact ⟨n, by omega, a⟩
              · exact ⟨k, by omega, tHas_iff.2 ⟨ht, by omega, by omega⟩⟩
            · rintro ⟨n, hn, a⟩
              by_cases e : n = k
              · subst e
                rw [tHas_iff] at a
                exact .inr (by omega)
              · exact .inl ⟨n, by omega, a⟩
      · simp only [ht, decide_false, cond_false, NodeSpec]
        have hno : ∀ i : Int, tHas (s.thing k) i = false := fun i => by simp [tHas, ht]
        refine ⟨h1, fun n hn => ?_, fun n hn m hm => ?_, fun i hi => ?_⟩
        · by_cases e : n = k
          · subst e; exact fun h => absurd h ht
          · exact h2 n (by omega)
        · by_cases e : n = k
          · subst e; intro i a; rw [hno] at a; cases a
          · exact h3 n (by omega) m hm
        · rw [h4 i hi]
          constructor
          · rintro ⟨n, hn, a⟩; exact ⟨n, by omega, a⟩
          · rintro ⟨n, hn, a⟩
            by_cases e : n = k
            · subst e; rw [hno] at a; cases a
            · exact ⟨n, by omega, a⟩

theorem sNodes_iff {s : State} (ok : ThingsOk s) : sNodes s = true ↔ (∀ n, n < s.things.length → fitN s n) ∧ (∀ n, n < s.things.length → ∀ m, m < n → apartN s n m) ∧
    ∀ i : Nat, i < s.slots.length → cNone (s.slot i).cap = false → ∃ n, n < s.things.length ∧ tHas (s.thing n) i = true := by
  have h := nodes_spec ok s.things.length (Nat.le_refl _)
  simp only [sNodes]
  cases e : nodesHad s s.things.length with
  | none =>
    rw [e] at h
    simp only [NodeSpec] at h
    simp only [Bool.false_eq_true, false_iff]
    exact fun ⟨a, b, _⟩ => h ⟨a, b⟩
  | some l =>
    rw [e] at h
    obtain ⟨h1, h2, h3, h4⟩ := h
    simp only [List.all_eq_true, List.mem_range, Bool.or_eq_true]
    constructor
    · intro h
      refine ⟨h2, h3, fun i hi hn => ?_⟩
      rcases h i hi with h | h
      · exact (h4 i hi).1 h
      · rw [hn] at h; cases h
    · rintro ⟨_, _, h⟩ i hi
      cases hn : cNone (s.slot i).cap with
      | true => exact .inr rfl
      | false => exact .inl ((h4 i hi).2 (h i hi hn))

theorem findI_spec (p : Nat → Bool) (n : Nat) : (findI p n = -1 ∧ ∀ k, k < n → p k = false) ∨ ∃ k, k < n ∧ p k = true ∧ (∀ j, j < k → p j = false) ∧ findI p n = k := by
  simp only [findI]
  cases e : (List.range n).find? p with
  | none =>
    rw [List.find?_eq_none] at e
    exact .inl ⟨rfl, fun k hk => by simpa using e k (List.mem_range.2 hk)⟩
  | some k =>
    rw [List.find?_range_eq_some] at e
    exact .inr ⟨k, by simpa using e.2.1, e.1, fun j hj => by simpa using e.2.2 j hj, rfl⟩

theorem owner_eq {s : State} (ap : ∀ n, n < s.things.length → ∀ m, m < n → apartN s n m) {n i : Nat} (hn : n < s.things.length) (h : tHas (s.thing n) i = true) : sOwner s i = n := by
  simp only [sOwner]
  rcases findI_spec (fun k => tHas (s.thing k) i) s.things.length with ⟨_, h1⟩ | ⟨k, hk, h1, h2, h3⟩
  · rw [h1 n hn] at h; cases h
  · rw [h3]
    by_cases e : k = n
    · rw [e]
    · by_cases hlt : k < n
      · exact absurd (ap n hn k hlt i h h1) id
      · have := h2 n (by omega); rw [h] at this; cases this
theorem fIs_iff {up : List Int} {i : Int} : fIs up i = true ↔ 0 ≤ i ∧ i < up.length ∧ ¬ up.getD i.toNat 0 = -2 := by
  simp only [fIs, Bool.and_eq_true, decide_eq_true_eq, Bool.not_eq_true', decide_eq_false_iff_not]
def steps (up : List Int) : Nat → Int → Nat
  | 0, _ => 0
  | n + 1, i => if fIs up i = true then steps up n (up.getD i.toNat 0) + 1 else 0
theorem steps_more {up : List Int} : ∀ {n : Nat} {i : Int}, fEnds up n i = true → steps up (n + 1) i = steps up n i
  | 0, i, h => by
    have h : fIs up i = false := by simpa [fEnds] using h
    simp [steps, h]
  | n + 1, i, h => by
    by_cases hi : fIs up i = true
    · have h : fEnds up n (up.getD i.toNat 0) = true := by simpa [fEnds, hi] using h
      have ih := steps_more h
      simp only [steps, if_pos hi] at ih ⊢
      rw [ih]
    · simp only [steps, if_neg hi]

def Ranked (up : List Int) : Prop := ∃ r : Nat → Nat, ∀ i : Nat, i < up.length → fIs up i = true → fIs up (up.getD i 0) = true → r (up.getD i 0).toNat < r i

theorem ranked_of {up : List Int} (h : (List.range up.length).all (fun i => fEnds up (up.length + 1) i) = true) : Ranked up := by
  refine ⟨fun i => steps up (up.length + 1) i, fun i hi h1 h2 => ?_⟩
  have he := List.all_eq_true.1 h i (List.mem_range.2 hi)
  have h2' := h2
  rw [fIs_iff] at h2'
  have e : (((up.getD i 0).toNat : Nat) : Int) = up.getD i 0 := by omega
  simp only [e]
  have he2 : fEnds up up.length (up.getD i 0) = true := by simpa [fEnds, h1] using he
  rw [steps_more he2]
  conv => rhs; rw [steps]
  rw [if_pos h1]
  simp

theorem ends_of {up : List Int} (h : Ranked up) : (List.range up.length).all (fun i => fEnds up (up.length + 1) i) = true := by
  obtain ⟨r, hr⟩ := h
  have hc : ∀ i : Nat, i < up.length → fIs up i = true → fIs up (up.getD i 0) = true → (List.range up.length).countP (fun k => decide (r k < r (up.getD i 0).toNat)) < (List.range up.length).countP fun k => decide (r k < r i) := by
    intro i hi h1 h2
    have hlt := hr i hi h1 h2
    have h2' := h2
    rw [fIs_iff] at h2'
    refine countP_lt (fun k _ hk => ?_) ⟨(up.getD i 0).toNat, List.mem_range.2 (by omega), ?_, ?_⟩
    · simp only [decide_eq_true_eq] at hk ⊢; omega
    · simp only [decide_eq_true_eq]; exact hlt
    · simp
  have key : ∀ (n : Nat) (i : Nat), i < up.length → (List.range up.length).countP (fun k => decide (r k < r i)) ≤ n → fEnds up (n + 1) i = true := by
    intro n
    induction n with
    | zero =>
      intro i hi hn
      rw [fEnds]
      cases h1 : fIs up i with
      | false => rfl
      | true =>
        cases h2 : fIs up (up.getD i 0) with
        | false => simp only [fEnds, Int.toNat_natCast, h2]; rfl
        | true => have := hc i hi h1 h2; omega
    | succ n ih =>
      intro i hi hn
      rw [fEnds]
      cases h1 : fIs up i with
      | false => rfl
      | true =>
        cases h2 : fIs up (up.getD i 0) with
        | false => rw [fEnds]; simp only [Int.toNat_natCast, h2]; rfl
        | true =>
          have h3 := hc i hi h1 h2
          have h2' := h2
          rw [fIs_iff] at h2'
          have e : (((up.getD i 0).toNat : Nat) : Int) = up.getD i 0 := by omega
          have := ih (up.getD i 0).toNat (by omega) (by omega)
          rw [e] at this
          simp only [Int.toNat_natCast, this, Bool.or_true]
  rw [List.all_eq_true]
  intro i hi
  have hi := List.mem_range.1 hi
  exact key _ i hi (Nat.le_trans List.countP_le_length (by simp))

def State.non (s : State) (i : Nat) : Prop := cNone (s.slot i).cap = false

structure Inv (s : State) : Prop where
  geo : gGood s.geo = true
  lenS : (s.slots.length : Int) = s.geo.slots
  lenT : (s.things.length : Int) = s.geo.things
  capG : ∀ i, i < s.slots.length → cGood (s.slot i).cap = true
  upN : ∀ i, i < s.slots.length → cNone (s.slot i).cap = true → (s.slot i).up = -1
  capT : ∀ i, i < s.slots.length → s.non i → sThere s (s.slot i).cap.th = true ∧ (s.thing (s.slot i).cap.th.toNat).ty = (s.slot i).cap.ty
  tGood : ∀ k, k < s.things.length → tGood (s.thing k) = true
  from_ : ∀ k, k < s.things.length → 0 < (s.thing k).from_ → (s.thing k).from_ ≤ s.slots.length ∧ s.non ((s.thing k).from_ - 1).toNat
  root : ∀ k, k < s.things.length → rootB s k = true → s.thing k = rootT s.geo ((k : Int) - 2)
  held : ∀ k, k < s.things.length → rootB s k = false → (s.thing k).ty ≠ 0 → ∃ i, i < s.slots.length ∧ s.non i ∧ (s.slot i).cap.th = k
  fit : ∀ k, k < s.things.length → fitN s k
  apart : ∀ n, n < s.things.length → ∀ m, m < n → apartN s n m
  has : ∀ i, i < s.slots.length → s.non i → ∃ n, n < s.things.length ∧ tHas (s.thing n) i = true
  ring : ∀ n : Nat, n < s.things.length → ∀ m, Edge s n m → ¬ Reach s m n
  up : ∀ i, i < s.slots.length → s.non i → (s.slot i).up = -1 ∨ (0 ≤ (s.slot i).up ∧ (s.slot i).up < s.slots.length ∧ s.non (s.slot i).up.toNat)
  rank : ∃ r : Nat → Nat, ∀ i, i < s.slots.length → s.non i → 0 ≤ (s.slot i).up → r (s.slot i).up.toNat < r i
  allow : ∀ i, i < s.slots.length → s.non i → 0 ≤ (s.slot i).up → cLess (s.slot i).cap (s.slot (s.slot i).up.toNat).cap = true ∨ ((s.slot (s.slot i).up.toNat).cap.ty = 1 ∧ (s.slot i).cap.th ≠ (s.slot (s.slot i).up.toNat).cap.th)

theorem slots_all {s : State} {p : Slot → Bool} : s.slots.all p = true ↔ ∀ i, i < s.slots.length → p (s.slot i) = true := by
  rw [List.all_eq_true]
  constructor
  · exact fun h i hi => h _ (slot_mem hi)
  · intro h x hx
    obtain ⟨i, hi, rfl⟩ := List.mem_iff_getElem.1 hx
    have := h i hi
    simpa [State.slot, List.getD, hi] using this
theorem ne_none {c : Cap} (h : c.ty ≠ 0) : cNone c = false := by simp [cNone, h]
theorem forest_is {s : State} {i : Int} (hu : ∀ i, i < s.slots.length → s.non i → -1 ≤ (s.slot i).up) : fIs (sForest s) i = true ↔ 0 ≤ i ∧ i < s.slots.length ∧ s.non i.toNat := by
  simp only [fIs, Bool.and_eq_true, decide_eq_true_eq, Bool.not_eq_true', decide_eq_false_iff_not, sForest_length]
  constructor
  · rintro ⟨a, b, c⟩
    refine ⟨a, b, ?_⟩
    rw [sForest_get (by omega)] at c
    simp only [State.non]
    cases h : cNone (s.slot i.toNat).cap with
    | false => rfl
    | true => simp [upOf, h] at c
  · rintro ⟨a, b, c⟩
    refine ⟨a, b, ?_⟩
    rw [sForest_get (by omega)]
    have := hu _ (by omega) c
    simp only [State.non] at c
    simp only [upOf, c, cond_false]
    omega

theorem Inv.of {s : State} (h : StOk s) : Inv s := by
  have hc := slots_all.1 (show s.slots.all (capOk s) = true by have := h.caps; simpa [sCaps] using this)
  have ht := fun k hk => List.all_eq_true.1 (show (List.range s.things.length).all (thingOk s) = true by have := h.thingsB; simpa [sThings] using this) k (List.mem_range.2 hk)
  obtain ⟨n1, n2, n3⟩ := (sNodes_iff h.ok).1 h.nodes
  have hcN : ∀ i, i < s.slots.length → s.non i → -1 ≤ (s.slot i).up ∧ sThere s (s.slot i).cap.th = true ∧ (s.thing (s.slot i).cap.th.toNat).ty = (s.slot i).cap.ty := by
    intro i hi hn
    have := hc i hi
    simp only [State.non] at hn
    simp [capOk, hn] at this
    exact ⟨this.2.1, this.2.2⟩
  have hf := h.forest
  simp only [fGood, Bool.and_eq_true, decide_eq_true_eq] at hf
  have his := fun i => forest_is (s := s) (i := i) fun i hi hn => (hcN i hi hn).1
  have hup : ∀ i, i < s.slots.length → s.non i → (s.slot i).up = -1 ∨ (0 ≤ (s.slot i).up ∧ (s.slot i).up < s.slots.length ∧ s.non (s.slot i).up.toNat) := by
    intro i hi hn
    have := List.all_eq_true.1 hf.2.1 (upOf (s.slot i)) (by simp [sForest]; exact ⟨_, slot_mem hi, rfl⟩)
    have hn' := hn
    simp only [State.non] at hn'
    simp only [upOf, hn', cond_false, fUp, Bool.or_eq_true, decide_eq_true_eq] at this
    rcases this with h1 | h1 | h1
    · have := (hcN i hi hn).1; omega
    · exact .inl h1
    · exact .inr ((his _).1 h1)
  have hal := slots_all.1 (show s.slots.all (allowedB s) = true by have := h.allowed; simpa [sAllowed] using this)
  refine ⟨h.geo, h.slots, h.things, fun i hi => ?_, fun i hi hn => ?_, fun i hi hn => (hcN i hi hn).2, fun k hk => h.ok k hk, fun k hk h0 => from_ok h hk h0, fun k hk hr => ?_, fun k hk hr hty => ?_, n1, n2, n3, fun n hn m e => ?_, hup, ?_, fun i hi hn h0 => ?_⟩
  · have := hc i hi
    simp only [capOk, Bool.and_eq_true] at this
    exact this.1
  · have := hc i hi
    simp [capOk, hn] at this
    exact this.2
  · have := ht k hk
    simp only [thingOk, hr, cond_true, Bool.and_eq_true, tEq_iff] at this
    exact this.2.2
  · have := ht k hk
    simp only [thingOk, hr, cond_false, Bool.and_eq_true, Bool.or_eq_true, decide_eq_true_eq, hty, false_or, Bool.not_eq_true', decide_eq_false_iff_not] at this
    have hne := this.2.2
    cases hl : sHolders s k with
    | nil => rw [hl] at hne; simp at hne
    | cons a l =>
      have ha : a ∈ sHolders s k := by rw [hl]; exact List.mem_cons_self
      simp only [sHolders, pick, List.mem_map, List.mem_filter, List.mem_range] at ha
      obtain ⟨i, ⟨hi, hb⟩, _⟩ := ha
      simp only [holdB, Bool.and_eq_true, Bool.not_eq_true', decide_eq_true_eq] at hb
      exact ⟨i, hi, hb.1, hb.2⟩
  · obtain ⟨-, i, hi, a, b, c, rfl⟩ := e
    intro r
    have hnr : ringB s i = false := by
      have h1 : (!(List.range s.slots.length).all fun i => !ringB s i) = false := by have := h.ring; simpa only [sRing] using this
      simp only [Bool.not_eq_false'] at h1
      have := List.all_eq_true.1 h1 i (List.mem_range.2 hi)
      simpa using this
    have hin : sInside s (s.slot i).cap.th i = true := by
      rw [sInside_iff]
      refine ⟨c, ?_, ?_⟩
      · rw [(hcN i hi (ne_none (by omega))).2.2]; exact a
      · rw [owner_eq n2 hn b]; exact r
    simp [ringB, a, hin] at hnr
  · obtain ⟨r, hr⟩ := ranked_of hf.2.2
    refine ⟨r, fun i hi hn h0 => ?_⟩
    have hn' := hn
    simp only [State.non] at hn'
    have hg : (sForest s).getD i 0 = (s.slot i).up := by rw [sForest_get hi]; simp [upOf, hn']
    have := hr i (by rw [sForest_length]; exact hi) ((his _).2 ⟨by omega, by omega, by simpa using hn⟩)
    rw [hg] at this
    refine this ((his _).2 ?_)
    rcases hup i hi hn with h1 | h1
    · omega
    · exact h1
  · have := hal i hi
    simp only [allowedB, Bool.or_eq_true, decide_eq_true_eq, Bool.and_eq_true, Bool.not_eq_true', decide_eq_false_iff_not] at this
    rcases this with h1 | h1 | h1
    · omega
    · exact .inl h1
    · exact .inr h1

theorem Inv.ok {s : State} (h : Inv s) : StOk s := by
  have his := fun i => forest_is (s := s) (i := i) fun i hi hn => by rcases h.up i hi hn with h1 | h1 <;> omega
  have hg := gGood_bb h.geo
  have hS := h.lenS
  refine ⟨h.geo, h.lenS, h.lenT, ?_, ?_, (sNodes_iff h.tGood).2 ⟨h.fit, h.apart, h.has⟩, ?_, ?_, ?_⟩
  · simp only [sCaps]
    rw [slots_all]
    intro i hi
    simp only [capOk, h.capG i hi, Bool.true_and]
    cases hn : cNone (s.slot i).cap with
    | true => simp [h.upN i hi hn]
    | false =>
      have h1 := h.capT i hi hn
      simp only [cond_false, Bool.false_or, h1.1, h1.2, decide_true, Bool.and_true, decide_eq_true_eq]
      rcases h.up i hi hn with h2 | h2 <;> omega
  · simp only [sThings]
    rw [List.all_eq_true]
    intro k hk
    have hk := List.mem_range.1 hk
    simp only [thingOk, h.tGood k hk, Bool.true_and, Bool.and_eq_true]
    constructor
    · simp only [fromOk, Bool.or_eq_true, Bool.not_eq_true', decide_eq_false_iff_not, Bool.and_eq_true]
      by_cases h0 : 0 < (s.thing k).from_
      · have := h.from_ k hk h0
        exact .inr ⟨by omega, this.2⟩
      · exact .inl h0
    · cases hr : rootB s k with
      | true => simp only [cond_true, tEq_iff]; exact h.root k hk hr
      | false =>
        simp only [cond_false, Bool.or_eq_true, decide_eq_true_eq, Bool.not_eq_true', decide_eq_false_iff_not]
        by_cases h0 : (s.thing k).ty = 0
        · exact .inl h0
        · right
          obtain ⟨i, hi, a, b⟩ := h.held k hk hr h0
          have : (i : Int) ∈ sHolders s k := by
            simp only [sHolders, pick, List.mem_map, List.mem_filter, List.mem_range]
            refine ⟨i, ⟨hi, ?_⟩, rfl⟩
            simp only [State.non] at a
            simp only [holdB, a, b, Bool.not_false, decide_true, Bool.and_self]
          intro e
          have e : (sHolders s k).length = 0 := by omega
          rw [List.length_eq_zero_iff] at e
          rw [e] at this
          cases this
  · simp only [sRing, Bool.not_eq_false']
    rw [List.all_eq_true]
    intro i hi
    have hi := List.mem_range.1 hi
    cases hb : ringB s i with
    | false => rfl
    | true =>
      simp only [ringB, Bool.and_eq_true, decide_eq_true_eq] at hb
      obtain ⟨a, b⟩ := hb
      rw [sInside_iff] at b
      have hn : s.non i := ne_none (by omega)
      obtain ⟨n, hn1, hn2⟩ := h.has i hi hn
      rw [owner_eq h.apart hn1 hn2] at b
      exact absurd b.2.2 (h.ring n hn1 _ ⟨by omega, i, hi, a, by simpa using hn2, b.1, rfl⟩)
  · simp only [fGood, Bool.and_eq_true, decide_eq_true_eq]
    refine ⟨by rw [sForest_length]; omega, ?_, ends_of ?_⟩
    · rw [List.all_eq_true]
      intro u hu
      simp only [sForest, List.mem_map] at hu
      obtain ⟨x, hx, rfl⟩ := hu
      obtain ⟨i, hi, rfl⟩ := List.mem_iff_getElem.1 hx
      have e : s.slots[i] = s.slot i := by simp [State.slot, List.getD, hi]
      rw [e]
      cases hn : cNone (s.slot i).cap with
      | true => simp [upOf, hn, fUp]
      | false =>
        simp only [upOf, hn, cond_false, fUp, Bool.or_eq_true, decide_eq_true_eq]
        rcases h.up i hi hn with h1 | h1
        · exact .inr (.inl h1)
        · exact .inr (.inr ((his _).2 h1))
    · obtain ⟨r, hr⟩ := h.rank
      refine ⟨r, fun i hi h1 h2 => ?_⟩
      rw [sForest_length] at hi
      have h1 := (his _).1 h1
      have hn : s.non i := by simpa using h1.2.2
      have hn' := hn
      simp only [State.non] at hn'
      have hg : (sForest s).getD i 0 = (s.slot i).up := by rw [sForest_get hi]; simp [upOf, hn']
      rw [hg] at h2 ⊢
      exact hr i hi hn ((his _).1 h2).1
  · simp only [sAllowed]
    rw [slots_all]
    intro i hi
    simp only [allowedB, Bool.or_eq_true, decide_eq_true_eq, Bool.and_eq_true, Bool.not_eq_true', decide_eq_false_iff_not]
    by_cases h0 : (s.slot i).up < 0
    · exact .inl h0
    · right
      refine h.allow i hi ?_ (by omega)
      simp only [State.non]
      cases hn : cNone (s.slot i).cap with
      | false => rfl
      | true => have := h.upN i hi hn; omega

theorem inv_iff {s : State} : sGood s = true ↔ Inv s := ⟨fun h => .of (stOk_of h), fun h => h.ok.good⟩
end Go.Ax.M

/- States that may be stay so. Plain laws about the mirrors. Conditions: none. -/
namespace Go.Ax.M
open Go Go.Ax

theorem there_iff {s : State} {t : Int} : sThere s t = true ↔ 0 ≤ t ∧ t < s.things.length ∧ (s.thing t.toNat).ty ≠ 0 := by simp [sThere]
theorem non_of {s : State} {i : Nat} (h : (s.slot i).cap.ty ≠ 0) : s.non i := ne_none h
theorem none_cap {c : Cap} (h : cNone c = true) : c = .zero := by
  obtain ⟨a, b, d, e⟩ := c
  simp [cNone] at h
  simp [Cap.zero, h]
theorem reach_add {s u : State} {o t : Int} (he : ∀ n m, Edge u n m → Edge s n m ∨ (n = o ∧ m = t)) {n m : Int} (r : Reach u n m) : Reach s n m ∨ (Reach s n o ∧ Reach s t m) := by
  induction r with
  | refl => exact .inl .refl
  | step e _ ih =>
    rcases he _ _ e with e | ⟨rfl, rfl⟩
    · rcases ih with h | ⟨h1, h2⟩
      · exact .inl (.step e h)
      · exact .inr ⟨.step e h1, h2⟩
    · rcases ih with h | ⟨h1, h2⟩
      · exact .inr ⟨.refl, h⟩
      · exact .inr ⟨.refl, h2⟩
theorem ring_add {s u : State} {o t : Int} (hr : ∀ n : Nat, n < s.things.length → ∀ m, Edge s n m → ¬ Reach s m n) (hT : u.things.length = s.things.length)
    (he : ∀ n m, Edge u n m → Edge s n m ∨ (n = o ∧ m = t)) (hto : ¬ Reach s t o) : ∀ n : Nat, n < u.things.length → ∀ m, Edge u n m → ¬ Reach u m n := by
  intro n hn m e r
  rcases he _ _ e with e | ⟨rfl, rfl⟩
  · rcases reach_add he r with h | ⟨h1, h2⟩
    · exact hr n (hT ▸ hn) m e h
    · exact hto (h2.trans (.step e h1))
  · rcases reach_add he r with h | ⟨h1, h2⟩
    · exact hto h
    · exact hto h2
theorem ring_sub {s u : State} (hr : ∀ n : Nat, n < s.things.length → ∀ m, Edge s n m → ¬ Reach s m n) (hT : u.things.length = s.things.length)
    (he : ∀ n m, Edge u n m → Edge s n m) : ∀ n : Nat, n < u.things.length → ∀ m, Edge u n m → ¬ Reach u m n :=
  fun n hn m e r => hr n (hT ▸ hn) m (he _ _ e) (r.mono he)

theorem Inv.put {s u : State} (h : Inv s) {fr to : Nat} {c : Cap} (hf : fr < s.slots.length) (ht : to < s.slots.length) (hg : u.geo = s.geo) (hT : u.things = s.things) (hS : u.slots.length = s.slots.length)
    (hsl : ∀ k, u.slot k = if k = to then ⟨c, (fr : Int)⟩ else s.slot k) (hc : cGood c = true) (hn : cNone c = false) (ho : ∃ n, n < s.things.length ∧ tHas (s.thing n) to = true) (hfn : s.non fr) (hte : cNone (s.slot to).cap = true)
    (hct : sThere s c.th = true ∧ (s.thing c.th.toNat).ty = c.ty) (ha : cLess c (s.slot fr).cap = true ∨ ((s.slot fr).cap.ty = 1 ∧ c.th ≠ (s.slot fr).cap.th)) (hr : c.ty = 2 → ¬ Reach s c.th (sOwner s to)) : Inv u := by
  have hne : fr ≠ to := by rintro rfl; simp only [State.non] at hfn; rw [hfn] at hte; cases hte
  have hth : ∀ k, u.thing k = s.thing k := fun k => by simp only [State.thing, hT]
  have hto : u.slot to = ⟨c, (fr : Int)⟩ := by rw [hsl, if_pos rfl]
  have hel : ∀ k, k ≠ to → u.slot k = s.slot k := fun k hk => by rw [hsl, if_neg hk]
  have hthere : ∀ t, sThere u t = sThere s t := fun t => by simp only [sThere, hth, hT]
  have hnto : ∀ k, s.non k → k ≠ to := by rintro k hk rfl; simp only [State.non] at hk; rw [hk] at hte; cases hte
  have hnon : ∀ k, s.non k → u.non k := fun k hk => by simp only [State.non, hel k (hnto k hk)]; exact hk
  have hno : ∀ k, u.non k → k = to ∨ (k ≠ to ∧ s.non k) := fun k hk => by
    by_cases e : k = to
    · exact .inl e
    · exact .inr ⟨e, by simp only [State.non, hel k e] at hk; exact hk⟩
  have hT' : u.things.length = s.things.length := by rw [hT]
  refine ⟨by rw [hg]; exact h.geo, by rw [hS, hg]; exact h.lenS, by rw [hT, hg]; exact h.lenT, fun i hi => ?_, fun i hi hin => ?_, fun i hi hin => ?_, fun k hk => by rw [hth]; exact h.tGood k (hT' ▸ hk),
    fun k hk h0 => ?_, fun k hk hrb => by rw [hth, hg]; exact h.root k (hT' ▸ hk) (by simpa only [rootB, hg] using hrb), fun k hk hrb hty => ?_, fun k hk => by have := h.fit k (hT' ▸ hk); simpa only [fitN, hth, hS] using this,
    fun n hn m hm => by have := h.apart n (hT' ▸ hn) m hm; simpa only [apartN, hth] using this, fun i hi hin => ?_, ?_, fun i hi hin => ?_, ?_, fun i hi hin h0 => ?_⟩
  · by_cases e : i = to
    · subst e; rw [hto]; exact hc
    · rw [hel i e]; exact h.capG i (hS ▸ hi)
  · by_cases e : i = to
    · subst e; rw [hto] at hin; rw [hn] at hin; cases hin
    · rw [hel i e] at hin ⊢; exact h.upN i (hS ▸ hi) hin
  · rw [hthere, hth]
    rcases hno i hin with rfl | ⟨e, hin'⟩
    · rw [hto]; exact hct
    · rw [hel i e]; exact h.capT i (hS ▸ hi) hin'
  · rw [hth] at h0 ⊢
    have := h.from_ k (hT' ▸ hk) h0
    exact ⟨by rw [hS]; exact this.1, hnon _ this.2⟩
  · rw [hth] at hty
    obtain ⟨i, hi, a, b⟩ := h.held k (hT' ▸ hk) (by simpa only [rootB, hg] using hrb) hty
    exact ⟨i, hS ▸ hi, hnon i a, by rw [hel i (hnto i a)]; exact b⟩
  · rcases hno i hin with rfl | ⟨e, hin'⟩
    · obtain ⟨n, a, b⟩ := ho; exact ⟨n, hT' ▸ a, by rw [hth]; exact b⟩
    · obtain ⟨n, a, b⟩ := h.has i (hS ▸ hi) hin'; exact ⟨n, hT' ▸ a, by rw [hth]; exact b⟩
  · by_cases h2 : c.ty = 2
    · refine ring_add (o := sOwner s to) (t := c.th) h.ring hT' (fun n m e => ?_) (hr h2)
      obtain ⟨n0, i, hi, a, b, d, rfl⟩ := e
      rw [hth] at b
      by_cases e : i = to
      · subst e
        right
        obtain ⟨k, hk, hk2⟩ := ho
        rw [hto]
        refine ⟨?_, rfl⟩
        have : n.toNat < s.things.length := by
          by_cases hlt : n.toNat < s.things.length
          · exact hlt
          · have hz : s.thing n.toNat = .zero := by simp [State.thing, List.getD, List.getElem?_eq_none (by omega : s.things.length ≤ n.toNat)]
            rw [hz] at b; simp [tHas, Thing.zero] at b
        rw [owner_eq h.apart this b]; omega
      · rw [hel i e] at a d ⊢
        rw [hthere] at d
        exact .inl ⟨n0, i, hS ▸ hi, a, b, d, rfl⟩
    · refine ring_sub h.ring hT' fun n m e => ?_
      obtain ⟨n0, i, hi, a, b, d, rfl⟩ := e
      rw [hth] at b
      by_cases e : i = to
      · subst e; rw [hto] at a; exact absurd a h2
      · rw [hel i e] at a d ⊢
        rw [hthere] at d
        exact ⟨n0, i, hS ▸ hi, a, b, d, rfl⟩
  · rcases hno i hin with rfl | ⟨e, hin'⟩
    · rw [hto]; exact .inr ⟨by simp, by simp; omega, by simpa using hnon fr hfn⟩
    · rw [hel i e]
      rcases h.up i (hS ▸ hi) hin' with h1 | ⟨h1, h2, h3⟩
      · exact .inl h1
      · exact .inr ⟨h1, by omega, hnon _ h3⟩
  · obtain ⟨r, hr⟩ := h.rank
    refine ⟨fun k => if k = to then r fr + 1 else r k, fun i hi hin h0 => ?_⟩
    rcases hno i hin with rfl | ⟨e, hin'⟩
    · rw [hto]; simp [hne]
    · rw [hel i e] at h0 ⊢
      have h4 := hr i (hS ▸ hi) hin' h0
      have h5 : (s.slot i).up.toNat ≠ to := by
        rcases h.up i (hS ▸ hi) hin' with h1 | ⟨h1, h2, h3⟩
        · omega
        · exact hnto _ h3
      simp only [if_neg h5, if_neg e]; exact h4
  · rcases hno i hin with rfl | ⟨e, hin'⟩
    · rw [hto]; simp only [Int.toNat_natCast]; rw [hel fr hne]; exact ha
    · rw [hel i e] at h0 ⊢
      have h5 : (s.slot i).up.toNat ≠ to := by
        rcases h.up i (hS ▸ hi) hin' with h1 | ⟨h1, h2, h3⟩
        · omega
        · exact hnto _ h3
      rw [hel _ h5]; exact h.allow i (hS ▸ hi) hin' h0

theorem Inv.thing {s u : State} (h : Inv s) {b : Nat} {T : Thing} (hb : b < s.things.length) (hg : u.geo = s.geo) (hS : u.slots = s.slots) (hT : u.things.length = s.things.length) (hth : ∀ k, u.thing k = if k = b then T else s.thing k)
    (h2 : (s.thing b).ty ≠ 2) (hty : T.ty = (s.thing b).ty) (hgd : M.tGood T = true) (hf : 0 < T.from_ → T.from_ ≤ s.slots.length ∧ s.non (T.from_ - 1).toNat) : Inv u := by
  have hsl : ∀ k, u.slot k = s.slot k := fun k => by simp only [State.slot, hS]
  have htb : u.thing b = T := by rw [hth, if_pos rfl]
  have hel : ∀ k, k ≠ b → u.thing k = s.thing k := fun k hk => by rw [hth, if_neg hk]
  have hty' : ∀ k, (u.thing k).ty = (s.thing k).ty := fun k => by
    by_cases e : k = b
    · subst e; rw [htb, hty]
    · rw [hel k e]
  have hthere : ∀ t, sThere u t = sThere s t := fun t => by simp only [sThere, hty', hT]
  have hnon : ∀ k, u.non k = s.non k := fun k => by simp only [State.non, hsl]
  have hhas : ∀ k i, tHas (u.thing k) i = tHas (s.thing k) i := fun k i => by
    by_cases e : k = b
    · subst e; simp only [tHas, htb, hty, h2, decide_false, Bool.false_and]
    · rw [hel k e]
  have hnr : rootB s b = false := by
    cases hr : rootB s b with
    | false => rfl
    | true => have := h.root b hb hr; rw [this] at h2; simp [rootT] at h2
  have hS' : u.slots.length = s.slots.length := by rw [hS]
  refine ⟨by rw [hg]; exact h.geo, by rw [hS, hg]; exact h.lenS, by rw [hT, hg]; exact h.lenT, fun i hi => by rw [hsl]; exact h.capG i (hS' ▸ hi), fun i hi hin => by rw [hsl] at hin ⊢; exact h.upN i (hS' ▸ hi) hin,
    fun i hi hin => by rw [hthere, hsl, hty']; exact h.capT i (hS' ▸ hi) (by rw [← hnon]; exact hin), fun k hk => ?_, fun k hk h0 => ?_, fun k hk hrb => ?_, fun k hk hrb hk0 => ?_, fun k hk => ?_,
    fun n hn m hm i => by rw [hhas, hhas]; exact h.apart n (hT ▸ hn) m hm i, fun i hi hin => ?_, ?_, fun i hi hin => ?_, ?_, fun i hi hin h0 => ?_⟩
  · by_cases e : k = b
    · subst e; rw [htb]; exact hgd
    · rw [hel k e]; exact h.tGood k (hT ▸ hk)
  · simp only [hnon, hS']
    by_cases e : k = b
    · subst e; rw [htb] at h0 ⊢; exact hf h0
    · rw [hel k e] at h0 ⊢; exact h.from_ k (hT ▸ hk) h0
  · have hrb' : rootB s k = true := by simpa only [rootB, hg] using hrb
    by_cases e : k = b
    · subst e; rw [hnr] at hrb'; cases hrb'
    · rw [hel k e, hg]; exact h.root k (hT ▸ hk) hrb'
  · rw [hty'] at hk0
    obtain ⟨i, a, b', c⟩ := h.held k (hT ▸ hk) (by simpa only [rootB, hg] using hrb) hk0
    exact ⟨i, hS' ▸ a, by rw [hnon]; exact b', by rw [hsl]; exact c⟩
  · intro hk2
    rw [hty'] at hk2
    have e : k ≠ b := by rintro rfl; exact h2 hk2
    rw [hel k e, hS']; exact h.fit k (hT ▸ hk) hk2
  · obtain ⟨n, a, b'⟩ := h.has i (hS' ▸ hi) (by rw [← hnon]; exact hin)
    exact ⟨n, hT ▸ a, by rw [hhas]; exact b'⟩
  · refine ring_sub h.ring hT fun n m e => ?_
    obtain ⟨n0, i, hi, a, b', d, rfl⟩ := e
    rw [hhas] at b'
    rw [hsl] at a d ⊢
    rw [hthere] at d
    exact ⟨n0, i, hS' ▸ hi, a, b', d, rfl⟩
  · rw [hsl, hS', hnon]; exact h.up i (hS' ▸ hi) (by rw [← hnon]; exact hin)
  · obtain ⟨r, hr⟩ := h.rank
    exact ⟨r, fun i hi hin h0 => by rw [hsl] at h0 ⊢; exact hr i (hS' ▸ hi) (by rw [← hnon]; exact hin) h0⟩
  · rw [hsl] at h0 ⊢; rw [hsl]; exact h.allow i (hS' ▸ hi) (by rw [← hnon]; exact hin) h0

end Go.Ax.M

/- Mail: what is sent is taken out once. Plain laws about the mirrors. Conditions: none. -/
namespace Go.Ax.M
open Go Go.Ax

structure Like (s u : State) : Prop where
  geo : u.geo = s.geo
  slots : u.slots = s.slots
  len : u.things.length = s.things.length
  thing : ∀ k, u.thing k = s.thing k ∨ ((u.thing k).ty = (s.thing k).ty ∧ (s.thing k).ty ≠ 2)

theorem Like.ty {s u : State} (h : Like s u) (k : Nat) : (u.thing k).ty = (s.thing k).ty := by
  rcases h.thing k with e | ⟨e, f⟩
  · rw [e]
  · rw [e]
theorem Like.slot {s u : State} (h : Like s u) (k : Nat) : u.slot k = s.slot k := by simp only [State.slot, h.slots]
theorem Like.node {s u : State} (h : Like s u) {k : Nat} (hk : (s.thing k).ty = 2) : u.thing k = s.thing k := by
  rcases h.thing k with e | ⟨e, f⟩
  · exact e
  · exact absurd hk f
theorem Like.owner {s u : State} (h : Like s u) (n : Int) : sOwner u n = sOwner s n := by
  have : ∀ k, tHas (u.thing k) n = tHas (s.thing k) n := fun k => by
    rcases h.thing k with e | ⟨e, f⟩
    · rw [e]
    · simp [tHas, e, f]
  simp only [sOwner, h.len, this]
theorem Like.step {s u : State} (h : Like s u) {k : Nat} (hk : (s.thing k).ty = 2) (n : Int) : stepI (u.thing k) n = stepI (s.thing k) n := by rw [h.node hk]
theorem Like.through {s u : State} (h : Like s u) (i : Int) : throughB u i = throughB s i := by simp only [throughB, h.slot]
theorem Like.walk {s u : State} (h : Like s u) (ok : StOk s) : ∀ (p : List Int) (i : Int), (∀ n ∈ p, 0 ≤ n) → 0 ≤ i → i < s.slots.length → fWalk u p i = fWalk s p i
  | [], _, _, _, _ => rfl
  | n :: r, i, hp, h0, h1 => by
    rw [fWalk, fWalk, h.through, h.slot]
    cases hb : throughB s i with
    | false => rfl
    | true =>
      obtain ⟨q1, q2⟩ := through_node ok h0 h1 hb
      rw [h.step q2]
      cases hd : decide (stepI (s.thing (s.slot i.toNat).cap.th.toNat) n < 0) with
      | true => rfl
      | false =>
        have := (stepI_lt ok q1 q2 (n := n) (hp n List.mem_cons_self)).resolve_left (by simpa using hd)
        simp only [Bool.not_false, Bool.and_self, cond_true]
        exact Like.walk h ok r _ (fun m hm => hp m (List.mem_cons_of_mem _ hm)) this.1 this.2
theorem pGood_pos {p : List Int} (h : pGood p = true) : ∀ n ∈ p, 0 ≤ n := by
  intro n hn
  obtain ⟨k, hk, rfl⟩ := List.mem_iff_getElem.1 hn
  have := (pGood_get h hk).1
  simpa [List.getD, hk] using this
theorem mailT_good {fr ba w : Int} (h1 : 0 ≤ fr) (h2 : fr ≤ 96) (h3 : 0 ≤ ba) (h4 : ba ≤ 65535) : tGood (mailT fr ba w) = true := by
  simp [tGood, mailT, tOwn, tEq, Thing.zero, inB, h1, h2, h3, h4]
end Go.Ax.M

/- Copies and moves: plain laws about the mirrors. Conditions: none. -/
namespace Go.Ax.M
open Go Go.Ax

theorem step_has {s : State} (h : Inv s) {k : Nat} (hk : k < s.things.length) (h2 : (s.thing k).ty = 2) {n : Int} (hn : 0 ≤ n) (h0 : ¬ stepI (s.thing k) n < 0) : tHas (s.thing k) (stepI (s.thing k) n) = true := by
  have hb := tGood_node (h.tGood k hk) h2
  simp only [stepI] at h0 ⊢
  cases hd : decide (p2 (s.thing k).bits ≤ n) with
  | true => simp [hd] at h0
  | false =>
    simp only [cond_false]
    simp at hd
    exact tHas_iff.2 ⟨h2, by omega, by omega⟩
theorem fWalk_has {s : State} (h : Inv s) : ∀ (p : List Int) (i : Int), (∀ n ∈ p, 0 ≤ n) → 0 ≤ i → i < s.slots.length → (∃ k, k < s.things.length ∧ tHas (s.thing k) i = true) → (fWalk s p i).2 = 0 → ∃ k, k < s.things.length ∧ tHas (s.thing k) (fWalk s p i).1 = true
  | [], i, _, _, _, hh, _ => hh
  | n :: r, i, hp, h0, h1, hh, he => by
    rw [fWalk] at he ⊢
    cases hc : (throughB s i && !decide (stepI (s.thing (s.slot i.toNat).cap.th.toNat) n < 0)) with
    | false => rw [hc] at he; simp at he
    | true =>
      rw [hc] at he
      simp only [cond_true] at he ⊢
      simp only [Bool.and_eq_true, Bool.not_eq_true', decide_eq_false_iff_not] at hc
      obtain ⟨q1, q2⟩ := through_node h.ok h0 h1 hc.1
      have h3 := (stepI_lt h.ok q1 q2 (n := n) (hp n List.mem_cons_self)).resolve_left hc.2
      exact fWalk_has h r _ (fun m hm => hp m (List.mem_cons_of_mem _ hm)) h3.1 h3.2 ⟨_, q1, step_has h q1 q2 (hp n List.mem_cons_self) hc.2⟩ he
theorem fSlot_has {s : State} {th : Int} {p : List Int} (he : (fSlot s th p).2 = 0) : ∃ k, k < s.things.length ∧ tHas (s.thing k) (fSlot s th p).1 = true := by
  obtain ⟨ok, hi, hp, h0, h1⟩ := fSlot_ok he
  have h := Inv.of ok
  simp only [fSlot, ok.good, hi, hp, Bool.and_self, cond_true] at he ⊢
  rw [inB_iff] at hi
  have hpn := pGood_pos hp
  obtain ⟨q1, q2⟩ := root_node ok hi.1 hi.2
  cases p with
  | nil => simp [pGood] at hp
  | cons n r =>
    simp only [fFirst] at he ⊢
    cases hd : decide (stepI (s.thing (2 + th).toNat) n < 0) with
    | true => rw [hd] at he; simp at he
    | false =>
      rw [hd] at he
      simp only [Bool.not_false, cond_true] at he ⊢
      simp only [decide_eq_false_iff_not] at hd
      have h3 := (stepI_lt ok q1 q2 (n := n) (hpn n List.mem_cons_self)).resolve_left hd
      exact fWalk_has h r _ (fun m hm => hpn m (List.mem_cons_of_mem _ hm)) h3.1 h3.2 ⟨_, q1, step_has h q1 q2 (hpn n List.mem_cons_self) hd⟩ he
theorem fEmpty_ok {s : State} {th : Int} {p : List Int} (he : (fEmpty s th p).2 = 0) : Inv s ∧ 0 ≤ (fEmpty s th p).1 ∧ (fEmpty s th p).1 < s.slots.length ∧ cNone (s.slot (fEmpty s th p).1.toNat).cap = true ∧ (∃ k, k < s.things.length ∧ tHas (s.thing k) (fEmpty s th p).1 = true) ∧ fSlot s th p = ((fEmpty s th p).1, 0) := by
  simp only [fEmpty] at he ⊢
  cases h1 : decide ((fSlot s th p).2 = 0) with
  | false => rw [h1] at he; simp at he h1; exact absurd he h1
  | true =>
    rw [h1] at he
    simp only [Bool.not_true, cond_false] at he ⊢
    simp at h1
    cases h2 : cNone (s.slot (fSlot s th p).1.toNat).cap with
    | false => rw [h2] at he; simp at he
    | true =>
      simp only [Bool.not_true, cond_false]
      obtain ⟨ok, _, _, h3, h4⟩ := fSlot_ok h1
      exact ⟨.of ok, h3, h4, h2, fSlot_has h1, Prod.ext rfl h1⟩
theorem fCap_ok {s : State} {th : Int} {p : List Int} (h : (fCap s th p).2.2 = 0) : Inv s ∧ 0 ≤ (fCap s th p).1 ∧ (fCap s th p).1 < s.slots.length ∧ (fCap s th p).2.1 = (s.slot (fCap s th p).1.toNat).cap ∧ s.non (fCap s th p).1.toNat ∧ fSlot s th p = ((fCap s th p).1, 0) := by
  obtain ⟨h0, h1, ok, e, hn⟩ := fCap_lt h
  refine ⟨.of ok, h0, h1, e, by simp only [State.non]; rw [← e]; exact hn, ?_⟩
  simp only [fCap] at h ⊢
  cases h1 : decide ((fSlot s th p).2 = 0) with
  | false => rw [h1] at h; simp at h h1; exact absurd h h1
  | true =>
    rw [h1] at h
    simp only [Bool.not_true, cond_false] at h ⊢
    simp at h1
    cases h2 : cNone (s.slot (fSlot s th p).1.toNat).cap with
    | true => rw [h2] at h; simp at h
    | false => exact Prod.ext rfl h1
theorem giveM_some {s : State} {th : Int} {c : Call} {y : State} (h : (giveM s th c).st = some y) : callGood c = true ∧ (fCap s th c.a).2.2 = 0 ∧ (fEmpty s th c.b).2 = 0 ∧ giveM s th c = ⟨0, 0, 0, some y⟩ ∧
    ((c.op = 4 ∧ ringM s (fCap s th c.a).2.1 (fEmpty s th c.b).1 = false ∧ y = movedS s (fCap s th c.a).1 (fEmpty s th c.b).1) ∨
     ((c.op = 2 ∨ c.op = 3) ∧ ∃ x : Cap, putE s (fCap s th c.a).1 (fEmpty s th c.b).1 x = 0 ∧ y = putS s (fCap s th c.a).1 (fEmpty s th c.b).1 x ∧ x.ri = (cCut (fCap s th c.a).2.1 c.x).ri ∧ (c.op = 2 → x = cCut (fCap s th c.a).2.1 c.x) ∧ (c.op = 3 → cStamp (cCut (fCap s th c.a).2.1 c.x) c.y = (x, 0)))) := by
  simp only [giveM] at h ⊢
  cases h1 : (!callGood c || (!decide (c.op = 2) && (!decide (c.op = 3) && !decide (c.op = 4)))) with
  | true => simp [h1, Res.bad] at h
  | false =>
  simp only [h1, cond_false] at h ⊢
  cases h2 : decide ((fCap s th c.a).2.2 = 0) with
  | false => simp [h2, Res.bad] at h
  | true =>
  simp only [h2, Bool.not_true, cond_false] at h ⊢
  cases h3 : (decide (c.op = 3) && !decide ((cStamp (giveX c (fCap s th c.a).2.1) c.y).2 = 0)) with
  | true => simp [h3, Res.bad] at h
  | false =>
  simp only [h3, cond_false] at h ⊢
  cases h4 : decide ((fEmpty s th c.b).2 = 0) with
  | false => simp [h4, Res.bad] at h
  | true =>
  simp only [h4, Bool.not_true, cond_false] at h ⊢
  simp at h1 h2 h4
  refine ⟨h1.1, h2, h4, ?_⟩
  by_cases h5 : c.op = 4
  · simp only [giveIn, giveX, h5, decide_true, Bool.not_true, cond_false] at h ⊢
    simp only [show decide ((4 : Int) = 3) = false from rfl, cond_false] at h ⊢
    cases h6 : ringM s (fCap s th c.a).2.1 (fEmpty s th c.b).1 with
    | true => simp [h6, Res.bad] at h
    | false =>
      simp only [h6, cond_false, Option.some.injEq] at h ⊢
      exact ⟨by rw [h], .inl ⟨trivial, trivial, h.symm⟩⟩
  · have h45 : decide (c.op = 4) = false := by simpa using h5
    simp only [giveIn, giveX, h45, Bool.not_false, cond_true] at h h3 ⊢
    by_cases h7 : c.op = 3
    · simp only [h7, decide_true, Bool.true_and, cond_true] at h h3 ⊢
      simp at h3
      cases h8 : decide (putE s (fCap s th c.a).1 (fEmpty s th c.b).1 (cStamp (cCut (fCap s th c.a).2.1 c.x) c.y).1 = 0) with
      | false => simp [h8, Res.bad] at h
      | true =>
        simp only [h8, cond_true, Option.some.injEq] at h ⊢
        simp at h8
        refine ⟨by rw [h], .inr ⟨.inr trivial, _, h8, h.symm, ?_, fun h => by omega, fun _ => Prod.ext rfl h3⟩⟩
        have h3' := h3
        simp only [cStamp] at h3 ⊢
        cases e1 : (!cGood (cCut (fCap s th c.a).2.1 c.x) || (!rBadge c.y || decide (c.y = 0))) with
        | true => simp [e1] at h3
        | false =>
        simp only [e1, cond_false] at h3 ⊢
        cases e2 : cBadged (cCut (fCap s th c.a).2.1 c.x).ty with
        | false => simp [e2] at h3
        | true =>
        simp only [e2, Bool.not_true, cond_false] at h3 ⊢
        cases e3 : decide ((cCut (fCap s th c.a).2.1 c.x).ba ≠ 0) with
        | true => simp [e3] at h3
        | false => rfl
    · have h2' : c.op = 2 := by omega
      simp only [h2', show decide ((2 : Int) = 3) = false from rfl, cond_false] at h ⊢
      cases h8 : decide (putE s (fCap s th c.a).1 (fEmpty s th c.b).1 (cCut (fCap s th c.a).2.1 c.x) = 0) with
      | false => simp [h8, Res.bad] at h
      | true =>
        simp only [h8, cond_true, Option.some.injEq] at h ⊢
        simp at h8
        exact ⟨by rw [h], .inr ⟨.inl trivial, _, h8, h.symm, rfl, fun _ => rfl, fun h => by omega⟩⟩

theorem mvThing_ty {fr to : Int} {t : Thing} : (mvThing fr to t).ty = t.ty := by simp only [mvThing]; cases decide (t.from_ = fr + 1) <;> rfl
theorem mvThing_has {fr to i : Int} {t : Thing} : tHas (mvThing fr to t) i = tHas t i := by simp only [mvThing, tHas]; cases decide (t.from_ = fr + 1) <;> rfl
theorem mvThing_fit {fr to : Int} {t : Thing} : (mvThing fr to t).base = t.base ∧ (mvThing fr to t).bits = t.bits := by simp only [mvThing]; cases decide (t.from_ = fr + 1) <;> exact ⟨rfl, rfl⟩

theorem mvThing_good {fr to : Int} {t : Thing} (h : tGood t = true) (h0 : 0 ≤ fr) (h1 : 0 ≤ to) (h2 : to < 96) : tGood (mvThing fr to t) = true := by
  simp only [mvThing]
  cases hd : decide (t.from_ = fr + 1) with
  | false => exact h
  | true =>
    simp only [cond_true]
    simp at hd
    have ho : tOwn t = t := by simp [tGood] at h; exact tEq_iff.1 h.1
    have h3 : t.ty = 3 ∧ t.full = true := by
      by_cases a1 : t.ty = 1
      · rw [← ho] at hd; simp [tOwn, a1, Thing.zero] at hd; omega
      by_cases a2 : t.ty = 2
      · rw [← ho] at hd; simp [tOwn, a2, Thing.zero] at hd; omega
      by_cases a3 : t.ty = 3
      · refine ⟨a3, ?_⟩
        cases hf : t.full with
        | true => rfl
        | false => rw [← ho] at hd; simp [tOwn, a3, hf, Thing.zero] at hd; omega
      by_cases a4 : t.ty = 4
      · rw [← ho] at hd; simp [tOwn, a4, Thing.zero] at hd; omega
      by_cases a5 : t.ty = 5
      · rw [← ho] at hd; simp [tOwn, a5, Thing.zero] at hd; omega
      rw [← ho] at hd; simp [tOwn, a1, a2, a3, a4, a5, Thing.zero] at hd; omega
    have hb : inB t.badge 0 65535 = true := by simp [tGood, h3.1] at h; exact h.2.1
    have e : { t with from_ := to + 1 } = mailT (to + 1) t.badge t.word := by
      rw [← ho]; simp [tOwn, h3.1, h3.2, mailT, Thing.zero]
    rw [e]
    rw [inB_iff] at hb
    exact mailT_good (by omega) (by omega) hb.1 hb.2

theorem non_lt {s : State} {k : Nat} (h : s.non k) : k < s.slots.length := by
  by_cases hk : k < s.slots.length
  · exact hk
  · have hz : s.slot k = Slot.zero := by simp [State.slot, List.getD, List.getElem?_eq_none (by omega : s.slots.length ≤ k)]
    simp only [State.non, hz] at h
    simp [Slot.zero, cNone, Cap.zero] at h
theorem has_lt {s : State} {k : Nat} {i : Int} (h : tHas (s.thing k) i = true) : k < s.things.length := by
  by_cases hk : k < s.things.length
  · exact hk
  · have hz : s.thing k = .zero := by simp [State.thing, List.getD, List.getElem?_eq_none (by omega : s.things.length ≤ k)]
    rw [hz] at h; simp [tHas, Thing.zero] at h
theorem Inv.move_edge {s u : State} (h : Inv s) {fr to : Nat} (hS : u.slots.length = s.slots.length) (hT : u.things.length = s.things.length)
    (hsf : u.slot fr = ⟨.zero, -1⟩) (hst : u.slot to = ⟨(s.slot fr).cap, (s.slot fr).up⟩) (hsl : ∀ k, k < s.slots.length → k ≠ fr → k ≠ to → u.slot k = ⟨(s.slot k).cap, if (s.slot k).up = (fr : Int) then (to : Int) else (s.slot k).up⟩)
    (hth : ∀ k, u.thing k = mvThing fr to (s.thing k)) (ho : ∃ n, n < s.things.length ∧ tHas (s.thing n) to = true) : ∀ n m, Edge u n m → Edge s n m ∨ (n = sOwner s to ∧ m = (s.slot fr).cap.th ∧ (s.slot fr).cap.ty = 2) := by
  intro n m e
  have hty : ∀ k, (u.thing k).ty = (s.thing k).ty := fun k => by rw [hth, mvThing_ty]
  have hthere : ∀ t, sThere u t = sThere s t := fun t => by simp only [sThere, hty, hT]
  obtain ⟨n0, i, hi, a, b, d, rfl⟩ := e
  rw [hth, mvThing_has] at b
  rw [hthere] at d
  rw [hS] at hi
  by_cases e : i = to
  · subst e
    right
    rw [hst] at a ⊢
    refine ⟨?_, rfl, a⟩
    rw [owner_eq h.apart (has_lt b) b]; omega
  · by_cases e' : i = fr
    · subst e'; rw [hsf] at a; simp [Cap.zero] at a
    · left
      rw [hsl i hi e' e] at a d ⊢
      exact ⟨n0, i, hi, a, b, d, rfl⟩

theorem Inv.move {s u : State} (h : Inv s) {fr to : Nat} (hf : fr < s.slots.length) (ht : to < s.slots.length) (hg : u.geo = s.geo) (hS : u.slots.length = s.slots.length) (hT : u.things.length = s.things.length)
    (hsf : u.slot fr = ⟨.zero, -1⟩) (hst : u.slot to = ⟨(s.slot fr).cap, (s.slot fr).up⟩) (hsl : ∀ k, k < s.slots.length → k ≠ fr → k ≠ to → u.slot k = ⟨(s.slot k).cap, if (s.slot k).up = (fr : Int) then (to : Int) else (s.slot k).up⟩)
    (hth : ∀ k, u.thing k = mvThing fr to (s.thing k)) (hfn : s.non fr) (hte : cNone (s.slot to).cap = true) (ho : ∃ n, n < s.things.length ∧ tHas (s.thing n) to = true)
    (hr : (s.slot fr).cap.ty = 2 → ¬ Reach s (s.slot fr).cap.th (sOwner s to)) : Inv u := by
  have hne : fr ≠ to := by rintro rfl; simp only [State.non] at hfn; rw [hfn] at hte; cases hte
  have hty : ∀ k, (u.thing k).ty = (s.thing k).ty := fun k => by rw [hth, mvThing_ty]
  have hthere : ∀ t, sThere u t = sThere s t := fun t => by simp only [sThere, hty, hT]
  have hhas : ∀ k i, tHas (u.thing k) i = tHas (s.thing k) i := fun k i => by rw [hth, mvThing_has]
  have hS96 := h.ok.lS
  have hnt : ∀ k, s.non k → k ≠ to := by rintro k hk rfl; simp only [State.non] at hk; rw [hk] at hte; cases hte
  -- where each one went
  obtain ⟨φ, hφ⟩ : ∃ φ : Nat → Nat, φ = fun k => if k = fr then to else k := ⟨_, rfl⟩
  have hφn : ∀ k, k ≠ fr → φ k = k := fun k hk => by simp [hφ, hk]
  have hφf : φ fr = to := by simp [hφ]
  have hupf : (s.slot fr).up ≠ (fr : Int) := by
    obtain ⟨r, hr⟩ := h.rank
    intro e
    have := hr fr hf hfn (by omega)
    rw [e] at this; simp at this
  have hgo : ∀ k, s.non k → u.slot (φ k) = ⟨(s.slot k).cap, if (s.slot k).up = (fr : Int) then (to : Int) else (s.slot k).up⟩ := by
    intro k hk
    by_cases e : k = fr
    · subst e; rw [hφf, hst, if_neg hupf]
    · rw [hφn k e]; exact hsl k (non_lt hk) e (hnt k hk)
  have hback : ∀ k, k < s.slots.length → u.non k → ∃ j, j < s.slots.length ∧ s.non j ∧ φ j = k := by
    intro k hk hn
    by_cases e : k = to
    · exact ⟨fr, hf, hfn, by rw [hφf, e]⟩
    · by_cases e' : k = fr
      · subst e'; simp only [State.non, hsf] at hn; simp [cNone, Cap.zero] at hn
      · refine ⟨k, hk, ?_, hφn k e'⟩
        simp only [State.non, hsl k hk e' e] at hn; exact hn
  have hnon : ∀ k, s.non k → u.non (φ k) := fun k hk => by simp only [State.non, hgo k hk]; exact hk
  have hlt : ∀ k, k < s.slots.length → φ k < s.slots.length := fun k hk => by
    by_cases e : k = fr
    · subst e; rw [hφf]; exact ht
    · rw [hφn k e]; exact hk
  have hupφ : ∀ k, k < s.slots.length → s.non k → (u.slot (φ k)).up = -1 ∧ (s.slot k).up = -1 ∨ (0 ≤ (s.slot k).up ∧ (s.slot k).up.toNat < s.slots.length ∧ s.non (s.slot k).up.toNat ∧ (u.slot (φ k)).up = (φ (s.slot k).up.toNat : Int)) := by
    intro k hk hn
    rw [hgo k hn]
    rcases h.up k hk hn with h1 | ⟨h1, h2, h3⟩
    · left; simp only [h1]; exact ⟨by rw [if_neg (by omega)], trivial⟩
    · right
      refine ⟨h1, by omega, h3, ?_⟩
      by_cases e : (s.slot k).up = (fr : Int)
      · simp only [if_pos e]; rw [e, Int.toNat_natCast, hφf]
      · simp only [if_neg e]; rw [hφn _ (by omega)]; omega
  refine ⟨by rw [hg]; exact h.geo, by rw [hS, hg]; exact h.lenS, by rw [hT, hg]; exact h.lenT, fun i hi => ?_, fun i hi hin => ?_, fun i hi hin => ?_, fun k hk => ?_, fun k hk h0 => ?_, fun k hk hrb => ?_, fun k hk hrb hk0 => ?_, fun k hk => ?_,
    fun n hn m hm i => by rw [hhas, hhas]; exact h.apart n (hT ▸ hn) m hm i, fun i hi hin => ?_, ?_, fun i hi hin => ?_, ?_, fun i hi hin h0 => ?_⟩
  · rw [hS] at hi
    by_cases e : i = to
    · subst e; rw [hst]; exact h.capG fr hf
    · by_cases e' : i = fr
      · subst e'; rw [hsf]; simp [cGood, cNone, Cap.zero]
      · rw [hsl i hi e' e]; exact h.capG i hi
  · rw [hS] at hi
    by_cases e : i = to
    · subst e; rw [hst] at hin; simp only [State.non] at hfn; rw [hfn] at hin; cases hin
    · by_cases e' : i = fr
      · subst e'; rw [hsf]
      · rw [hsl i hi e' e] at hin ⊢
        have := h.upN i hi hin
        simp only [this]; rw [if_neg (by omega)]
  · obtain ⟨j, hj, hjn, rfl⟩ := hback i (hS ▸ hi) hin
    rw [hgo j hjn, hthere, hty]; exact h.capT j hj hjn
  · rw [hth]; exact mvThing_good (h.tGood k (hT ▸ hk)) (by omega) (by omega) (by omega)
  · rw [hth] at h0 ⊢
    simp only [mvThing] at h0 ⊢
    cases hd : decide ((s.thing k).from_ = (fr : Int) + 1) with
    | true =>
      simp only [cond_true]
      refine ⟨by omega, ?_⟩
      rw [show ((to : Int) + 1 - 1).toNat = φ fr by rw [hφf]; omega]
      exact hnon fr hfn
    | false =>
      rw [hd] at h0
      simp only [cond_false] at h0 ⊢
      simp at hd
      have := h.from_ k (hT ▸ hk) h0
      refine ⟨by omega, ?_⟩
      rw [← hφn ((s.thing k).from_ - 1).toNat (by omega)]
      exact hnon _ this.2
  · rw [hth, h.root k (hT ▸ hk) (by simpa only [rootB, hg] using hrb), hg]
    simp only [mvThing, rootT]
    rw [show decide ((0 : Int) = (fr : Int) + 1) = false by simp; omega]
    rfl
  · rw [hty] at hk0
    obtain ⟨i, a, b, c⟩ := h.held k (hT ▸ hk) (by simpa only [rootB, hg] using hrb) hk0
    exact ⟨φ i, by rw [hS]; exact hlt i a, hnon i b, by rw [hgo i b]; exact c⟩
  · intro hk2
    rw [hty] at hk2
    have := h.fit k (hT ▸ hk) hk2
    rw [hth, mvThing_fit.1, mvThing_fit.2, hS]; exact this
  · obtain ⟨j, hj, hjn, rfl⟩ := hback i (hS ▸ hi) hin
    by_cases e : j = fr
    · subst e
      obtain ⟨n, a, b⟩ := ho
      exact ⟨n, hT ▸ a, by rw [hhas, hφf]; exact b⟩
    · obtain ⟨n, a, b⟩ := h.has j hj hjn
      exact ⟨n, hT ▸ a, by rw [hhas, hφn j e]; exact b⟩
  · have hed := h.move_edge hS hT hsf hst hsl hth ho
    by_cases h2 : (s.slot fr).cap.ty = 2
    · exact ring_add (o := sOwner s to) (t := (s.slot fr).cap.th) h.ring hT (fun n m e => by rcases hed n m e with e | ⟨e1, e2, _⟩; exact .inl e; exact .inr ⟨e1, e2⟩) (hr h2)
    · exact ring_sub h.ring hT fun n m e => by rcases hed n m e with e | ⟨_, _, e⟩; exact e; exact absurd e h2
  · obtain ⟨j, hj, hjn, rfl⟩ := hback i (hS ▸ hi) hin
    rcases hupφ j hj hjn with ⟨h1, _⟩ | ⟨h1, h2, h3, h4⟩
    · exact .inl h1
    · right
      rw [h4]
      exact ⟨by omega, by rw [hS]; have := hlt _ h2; omega, by simpa using hnon _ h3⟩
  · obtain ⟨r, hr⟩ := h.rank
    refine ⟨fun k => if k = to then r fr else r k, fun i hi hin h0 => ?_⟩
    obtain ⟨j, hj, hjn, rfl⟩ := hback i (hS ▸ hi) hin
    have key : ∀ k, s.non k → (if φ k = to then r fr else r (φ k)) = r k := by
      intro k hk
      by_cases e : k = fr
      · subst e; rw [hφf]; simp
      · rw [hφn k e, if_neg (hnt k hk)]
    rcases hupφ j hj hjn with ⟨h1, _⟩ | ⟨h1, h2, h3, h4⟩
    · omega
    · rw [h4]; simp only [Int.toNat_natCast]; rw [key _ h3, key _ hjn]; exact hr j hj hjn h1
  · obtain ⟨j, hj, hjn, rfl⟩ := hback i (hS ▸ hi) hin
    rcases hupφ j hj hjn with ⟨h1, _⟩ | ⟨h1, h2, h3, h4⟩
    · omega
    · rw [h4]; simp only [Int.toNat_natCast]; rw [hgo j hjn, hgo _ h3]; exact h.allow j hj hjn h1

end Go.Ax.M

/- Moved there and back: plain laws about the mirrors. Conditions: none. -/
namespace Go.Ax.M
open Go Go.Ax

theorem fold_set {v : Int} : ∀ (L : List Int) (up : List Int), (L.foldl (fun l k => l.set k.toNat v) up).length = up.length ∧
    ∀ k, k < up.length → (L.foldl (fun l k => l.set k.toNat v) up).getD k 0 = if (L.any fun j => decide (j.toNat = k)) = true then v else up.getD k 0
  | [], up => ⟨rfl, fun k _ => by simp⟩
  | j :: L, up => by
    have ih := fold_set (v := v) L (up.set j.toNat v)
    rw [List.foldl_cons]
    refine ⟨by rw [ih.1, List.length_set], fun k hk => ?_⟩
    rw [ih.2 k (by rw [List.length_set]; exact hk)]
    simp only [List.any_cons, Bool.or_eq_true, decide_eq_true_eq]
    by_cases h1 : (L.any fun j => decide (j.toNat = k)) = true
    · rw [if_pos h1, if_pos (.inr h1)]
    · rw [if_neg h1]
      by_cases h2 : j.toNat = k
      · rw [if_pos (.inl h2)]; subst h2; simp [List.getD, hk]
      · rw [if_neg (by rintro (h | h); exact h2 h; exact h1 h)]
        simp only [List.getD, List.getElem?_set_ne h2]
theorem of_any {up : List Int} {i : Int} {k : Nat} (hk : k < up.length) : ((fOf up i).any fun j => decide (j.toNat = k)) = decide (up.getD k 0 = i) := by
  rw [Bool.eq_iff_iff]
  simp only [fOf, pick, List.any_eq_true, List.mem_map, List.mem_filter, List.mem_range, decide_eq_true_eq]
  constructor
  · rintro ⟨_, ⟨j, ⟨_, h1⟩, rfl⟩, h2⟩
    simp at h2; subst h2; exact h1
  · intro h
    exact ⟨k, ⟨k, ⟨hk, h⟩, rfl⟩, by simp⟩
theorem fMove_get {up : List Int} {fr to : Nat} (hf : fr < up.length) (ht : to < up.length) (hne : fr ≠ to) (hup : up.getD fr 0 ≠ (fr : Int)) {k : Nat} (hk : k < up.length) :
    (fMove up fr to).getD k 0 = if k = fr then -2 else if k = to then up.getD fr 0 else if up.getD k 0 = (fr : Int) then (to : Int) else up.getD k 0 := by
  obtain ⟨l1, l2⟩ := fold_set (v := (to : Int)) (fOf up fr) up
  have hg : ∀ k, k < up.length → ((fOf up fr).foldl (fun l k => l.set k.toNat (to : Int)) up).getD k 0 = if up.getD k 0 = (fr : Int) then (to : Int) else up.getD k 0 := by
    intro k hk
    rw [l2 k hk, of_any hk]; simp
  simp only [fMove, Int.toNat_natCast]
  by_cases e : k = fr
  · subst e; simp [List.getD, l1, hf]
  · rw [if_neg e]
    have : ∀ (l : List Int) (v : Int), (l.set fr v).getD k 0 = l.getD k 0 := fun l v => by simp only [List.getD, List.getElem?_set_ne (fun h => e h.symm)]
    rw [this]
    by_cases e' : k = to
    · subst e'
      rw [if_pos rfl]
      have := hg fr hf
      rw [if_neg hup] at this
      rw [← this]; simp only [List.getD]; rw [List.getElem?_set_self (by rw [l1]; exact ht)]; rfl
    · rw [if_neg e']
      have : ∀ (l : List Int) (v : Int), (l.set to v).getD k 0 = l.getD k 0 := fun l v => by simp only [List.getD, List.getElem?_set_ne (fun h => e' h.symm)]
      rw [this]; exact hg k hk

theorem movedS_len {s : State} {fr to : Int} : (movedS s fr to).slots.length = s.slots.length := by simp [movedS]
theorem movedS_lenT {s : State} {fr to : Int} : (movedS s fr to).things.length = s.things.length := by simp [movedS]
theorem movedS_thing {s : State} {fr to : Int} (hf : 0 ≤ fr) (k : Nat) : (movedS s fr to).thing k = mvThing fr to (s.thing k) := by
  simp only [movedS, State.thing, List.getD, List.getElem?_map]
  cases h : s.things[k]? with
  | some t => rfl
  | none =>
    simp only [Option.map_none, Option.getD_none, mvThing, Thing.zero]
    rw [show decide ((0 : Int) = fr + 1) = false by simp; omega]; rfl

structure Moves (s : State) (fr to : Nat) : Prop where
  inv : Inv s
  hf : fr < s.slots.length
  ht : to < s.slots.length
  hfn : s.non fr
  hte : cNone (s.slot to).cap = true
  ho : ∃ n, n < s.things.length ∧ tHas (s.thing n) to = true
  hr : (s.slot fr).cap.ty = 2 → ¬ Reach s (s.slot fr).cap.th (sOwner s to)

theorem Moves.ne {s : State} {fr to : Nat} (m : Moves s fr to) : fr ≠ to := by
  rintro rfl; have h := m.hfn; simp only [State.non] at h; rw [m.hte] at h; cases h
theorem Moves.upf {s : State} {fr to : Nat} (m : Moves s fr to) : (s.slot fr).up ≠ (fr : Int) := by
  obtain ⟨r, hr⟩ := m.inv.rank
  intro e
  have := hr fr m.hf m.hfn (by omega)
  rw [e] at this; simp at this
theorem Moves.slot {s : State} {fr to : Nat} (m : Moves s fr to) {k : Nat} (hk : k < s.slots.length) : (movedS s fr to).slot k =
    if k = fr then ⟨.zero, -1⟩ else if k = to then ⟨(s.slot fr).cap, (s.slot fr).up⟩ else ⟨(s.slot k).cap, if (s.slot k).up = (fr : Int) then (to : Int) else (s.slot k).up⟩ := by
  have e : (movedS s fr to).slot k = mvSlot s fr to k := by simp [movedS, State.slot, List.getD, hk]
  have hfl : (sForest s).length = s.slots.length := sForest_length
  have hfn := m.hfn
  simp only [State.non] at hfn
  have hup : (sForest s).getD fr 0 = (s.slot fr).up := by rw [sForest_get m.hf]; simp [upOf, hfn]
  have hge : ∀ i, i < s.slots.length → s.non i → -1 ≤ (s.slot i).up := fun i hi hn => by rcases m.inv.up i hi hn with h | h <;> omega
  rw [e]
  simp only [mvSlot, Int.toNat_natCast]
  rw [fMove_get (by rw [hfl]; exact m.hf) (by rw [hfl]; exact m.ht) m.ne (by rw [hup]; exact m.upf) (by rw [hfl]; exact hk)]
  by_cases e1 : k = fr
  · subst e1; simp; omega
  · have e1' : ¬ ((k : Int) = (fr : Int)) := by omega
    simp only [if_neg e1, if_neg e1']
    by_cases e2 : k = to
    · subst e2
      simp only [if_true, hup]
      rw [Int.max_eq_left (hge fr m.hf m.hfn)]
    · have e2' : ¬ ((k : Int) = (to : Int)) := by omega
      simp only [if_neg e2, if_neg e2']
      rw [sForest_get hk]
      cases hn : cNone (s.slot k).cap with
      | true =>
        have := m.inv.upN k hk hn
        simp only [upOf, hn, cond_true, this]
        rw [if_neg (by omega), if_neg (by omega)]; rfl
      | false =>
        have := hge k hk hn
        simp only [upOf, hn, cond_false]
        congr 1
        split <;> omega
theorem Moves.edge {s : State} {fr to : Nat} (m : Moves s fr to) : ∀ n k, Edge (movedS s fr to) n k → Edge s n k ∨ (n = sOwner s to ∧ k = (s.slot fr).cap.th ∧ (s.slot fr).cap.ty = 2) := by
  refine m.inv.move_edge movedS_len movedS_lenT ?_ ?_ (fun k hk h1 h2 => ?_) (fun k => movedS_thing (by omega) k) m.ho
  · rw [m.slot m.hf, if_pos rfl]
  · rw [m.slot m.ht, if_neg (Ne.symm m.ne), if_pos rfl]
  · rw [m.slot hk, if_neg h1, if_neg h2]
theorem Moves.owner {s : State} {fr to : Nat} (n : Int) : sOwner (movedS s fr to) n = sOwner s n := by
  simp only [sOwner, movedS_lenT, movedS_thing (show (0 : Int) ≤ (fr : Int) by omega), mvThing_has]

theorem state_ext {s u : State} (hg : u.geo = s.geo) (hS : u.slots.length = s.slots.length) (hT : u.things.length = s.things.length) (h1 : ∀ k, k < s.slots.length → u.slot k = s.slot k) (h2 : ∀ k, k < s.things.length → u.thing k = s.thing k) : u = s := by
  obtain ⟨g, a, b⟩ := s
  obtain ⟨g', a', b'⟩ := u
  simp only at hg hS hT h1 h2
  subst hg
  have e1 : a' = a := by
    apply List.ext_getElem hS
    intro i hi hi'
    have := h1 i hi'
    simpa [State.slot, List.getD, hi, hi'] using this
  have e2 : b' = b := by
    apply List.ext_getElem hT
    intro i hi hi'
    have := h2 i hi'
    simpa [State.thing, List.getD, hi, hi'] using this
  rw [e1, e2]

theorem Moves.back {s : State} {fr to : Nat} (m : Moves s fr to) (m' : Moves (movedS s fr to) to fr) : movedS (movedS s fr to) to fr = s := by
  refine state_ext rfl (by rw [movedS_len, movedS_len]) (by rw [movedS_lenT, movedS_lenT]) (fun k hk => ?_) (fun k hk => ?_)
  · rw [m'.slot (by rw [movedS_len]; exact hk)]
    by_cases e1 : k = to
    · subst e1
      rw [if_pos rfl, ← none_cap m.hte, ← m.inv.upN k hk m.hte]
    · rw [if_neg e1]
      by_cases e2 : k = fr
      · subst e2
        rw [if_pos rfl, m.slot m.ht, if_neg (Ne.symm m.ne), if_pos rfl]
      · rw [if_neg e2, m.slot hk, if_neg e2, if_neg e1]
        have hnu : (s.slot k).up ≠ (to : Int) := by
          intro e
          cases hn : cNone (s.slot k).cap with
          | true => have := m.inv.upN k hk hn; omega
          | false =>
            rcases m.inv.up k hk hn with h | ⟨_, _, h⟩
            · omega
            · rw [e] at h; simp only [State.non, Int.toNat_natCast, m.hte] at h; cases h
        by_cases e3 : (s.slot k).up = (fr : Int)
        · simp only [if_pos e3, if_true]; rw [← e3]
        · simp only [if_neg e3, if_neg hnu]
  · rw [movedS_thing (by omega), movedS_thing (by omega)]
    have hnf : (s.thing k).from_ ≠ (to : Int) + 1 := by
      intro e
      have := (m.inv.from_ k hk (by omega)).2
      rw [e, show ((to : Int) + 1 - 1).toNat = to by omega] at this
      simp only [State.non, m.hte] at this; cases this
    simp only [mvThing]
    cases hd : decide ((s.thing k).from_ = (fr : Int) + 1) with
    | true =>
      simp at hd
      simp only [cond_true, decide_true]
      rw [← hd]
    | false =>
      simp only [cond_false]
      rw [show decide ((s.thing k).from_ = (to : Int) + 1) = false by simpa using hnf]; rfl

theorem ringM_false {s : State} (h : Inv s) {c : Cap} {to : Int} (h0 : 0 ≤ to) (h1 : to < s.slots.length) (hth : sThere s c.th = true ∧ (s.thing c.th.toNat).ty = c.ty) : ringM s c to = false ↔ (c.ty = 2 → ¬ Reach s c.th (sOwner s to)) := by
  have hg := h.ok.good
  simp only [ringM, sInsideX, hg, h0, h1, decide_true, Bool.true_and]
  constructor
  · intro h2 h3 h4
    have : sInside s c.th to = true := sInside_iff.2 ⟨hth.1, by rw [hth.2]; exact h3, h4⟩
    simp [h3, this] at h2
  · intro h2
    by_cases h3 : c.ty = 2
    · cases h4 : sInside s c.th to with
      | false => simp
      | true => exact absurd (sInside_iff.1 h4).2.2 (h2 h3)
    · simp [h3]

theorem moves_of {s : State} {th : Int} {c : Call} (h1 : (fCap s th c.a).2.2 = 0) (h2 : (fEmpty s th c.b).2 = 0) (h3 : ringM s (fCap s th c.a).2.1 (fEmpty s th c.b).1 = false) : Moves s (fCap s th c.a).1.toNat (fEmpty s th c.b).1.toNat := by
  obtain ⟨inv, a1, a2, a3, a4, _⟩ := fCap_ok h1
  obtain ⟨_, b1, b2, b3, b4, _⟩ := fEmpty_ok h2
  have e : (((fEmpty s th c.b).1.toNat : Nat) : Int) = (fEmpty s th c.b).1 := by omega
  have ht := inv.capT _ (by omega) a4
  rw [a3] at h3
  exact ⟨inv, by omega, by omega, a4, b3, by rw [e]; exact b4, by rw [e]; exact (ringM_false inv b1 b2 ht).1 h3⟩

theorem giveM_bad {s : State} {th : Int} {c : Call} (h : (giveM s th c).st = none) : ∃ e, e ≠ 0 ∧ giveM s th c = .bad e := by
  simp only [giveM] at h ⊢
  cases h1 : (!callGood c || (!decide (c.op = 2) && (!decide (c.op = 3) && !decide (c.op = 4)))) with
  | true => exact ⟨1, by decide, rfl⟩
  | false =>
  simp only [h1, cond_false] at h ⊢
  cases h2 : decide ((fCap s th c.a).2.2 = 0) with
  | false => exact ⟨_, by simpa using h2, rfl⟩
  | true =>
  simp only [h2, Bool.not_true, cond_false] at h ⊢
  cases h3 : (decide (c.op = 3) && !decide ((cStamp (giveX c (fCap s th c.a).2.1) c.y).2 = 0)) with
  | true => simp at h3; exact ⟨_, h3.2, rfl⟩
  | false =>
  simp only [h3, cond_false] at h ⊢
  cases h4 : decide ((fEmpty s th c.b).2 = 0) with
  | false => exact ⟨_, by simpa using h4, rfl⟩
  | true =>
  simp only [h4, Bool.not_true, cond_false] at h ⊢
  simp only [giveIn] at h ⊢
  cases h5 : decide (c.op = 4) with
  | true =>
    simp only [h5, Bool.not_true, cond_false] at h ⊢
    revert h
    cases ringM s (bif decide (c.op = 3) then (cStamp (giveX c (fCap s th c.a).2.1) c.y).1 else giveX c (fCap s th c.a).2.1) (fEmpty s th c.b).1 with
    | true => intro _; exact ⟨1, by decide, rfl⟩
    | false => intro h; simp at h
  | false =>
    simp only [h5, Bool.not_false, cond_true] at h ⊢
    cases h6 : decide (putE s (fCap s th c.a).1 (fEmpty s th c.b).1 (bif decide (c.op = 3) then (cStamp (giveX c (fCap s th c.a).2.1) c.y).1 else giveX c (fCap s th c.a).2.1) = 0) with
    | true => rw [h6] at h; simp at h
    | false => exact ⟨_, by simpa using h6, rfl⟩

theorem giveM_none {s : State} {th : Int} {c : Call} (h : (giveM s th c).st = none) : (giveM s th c).err ≠ 0 := by
  obtain ⟨e, he, h2⟩ := giveM_bad h
  rw [h2]; exact he

end Go.Ax.M

/- Badges: plain laws about the mirrors. Conditions: none. -/
namespace Go.Ax.M
open Go Go.Ax

section
variable {badge rights other : Int}

end
end Go.Ax.M

/- Emptied, and taken away: plain laws about the mirrors. Conditions: none. -/
namespace Go.Ax.M
open Go Go.Ax

end Go.Ax.M

/- What goes with what is emptied: how much it may be, and that it comes to an end: plain laws about the mirrors. Conditions: none. -/
namespace Go.Ax.M
open Go Go.Ax

def kinds (u : State) : Nat := (u.things.map (·.ty)).countP fun y => !decide (y = 0)
def BitsOk (u : State) : Prop := ∀ x ∈ u.things, 0 ≤ x.bits ∧ x.bits ≤ 4 ∧ 0 ≤ x.base ∧ x.base ≤ 96

theorem BitsOk.at {u : State} (h : BitsOk u) {t : Nat} (ht : t < u.things.length) : 0 ≤ (u.thing t).bits ∧ (u.thing t).bits ≤ 4 ∧ 0 ≤ (u.thing t).base ∧ (u.thing t).base ≤ 96 := by
  have e : u.thing t = u.things[t] := by simp [State.thing, List.getD, ht]
  rw [e]; exact h _ (List.getElem_mem ht)

theorem bits_good {s : State} (h : Inv s) : BitsOk s := by
  intro x hx
  obtain ⟨t, ht, rfl⟩ := List.getElem_of_mem hx
  have e : s.thing t = s.things[t] := by simp [State.thing, List.getD, ht]
  rw [← e]
  have hg := h.tGood t ht
  by_cases h2 : (s.thing t).ty = 2
  · have := tGood_node hg h2
    have hp := p2_bits this.1
    simp [inB] at this
    omega
  · have : tOwn (s.thing t) = s.thing t := by simp [M.tGood] at hg; exact tEq_iff.1 hg.1
    have hb : (tOwn (s.thing t)).bits = 0 ∧ (tOwn (s.thing t)).base = 0 := by
      simp only [tOwn, h2, decide_false, cond_false]
      cases decide ((s.thing t).ty = 1) <;> cases decide ((s.thing t).ty = 3) <;> cases (s.thing t).full <;> cases decide ((s.thing t).ty = 4) <;> cases decide ((s.thing t).ty = 5) <;> exact ⟨rfl, rfl⟩
    rw [this] at hb
    omega

theorem emptyS_tys {s : State} {i : Int} : (emptyS s i).things.map (·.ty) = s.things.map (·.ty) := by
  simp only [emptyS, List.map_map]
  apply List.map_congr_left
  intro x _
  simp only [Function.comp, emptyTh]; split <;> rfl
theorem emptyS_bits {s : State} {i : Int} (h : BitsOk s) : BitsOk (emptyS s i) := by
  intro x hx
  simp only [emptyS, List.mem_map] at hx
  obtain ⟨y, hy, rfl⟩ := hx
  have := h y hy
  simp only [emptyTh]; split <;> exact this

theorem empties_keep {l : List Int} : ∀ (s : State) (n : Int), (empties s n l).1.things.map (·.ty) = s.things.map (·.ty) ∧ (BitsOk s → BitsOk (empties s n l).1) := by
  induction l with
  | nil => exact fun s n => ⟨rfl, id⟩
  | cons i l ih =>
    intro s n
    have e : empties s n (i :: l) = empties (emptyE (s, n) i).1 (emptyE (s, n) i).2 l := rfl
    rw [e]
    have := ih (emptyE (s, n) i).1 (emptyE (s, n) i).2
    have h2 : (emptyE (s, n) i).1.things.map (·.ty) = s.things.map (·.ty) ∧ (BitsOk s → BitsOk (emptyE (s, n) i).1) := by
      simp only [emptyE]
      cases emptyB s i with
      | false => exact ⟨rfl, id⟩
      | true => exact ⟨emptyS_tys, emptyS_bits⟩
    exact ⟨this.1.trans h2.1, fun h => this.2 (h2.2 h)⟩
theorem empties_lens {l : List Int} : ∀ (s : State) (n : Int), (empties s n l).1.slots.length = s.slots.length ∧ (empties s n l).1.things.length = s.things.length ∧ (empties s n l).1.geo = s.geo ∧ n ≤ (empties s n l).2 ∧ (empties s n l).2 ≤ n + l.length := by
  induction l with
  | nil => exact fun s n => ⟨rfl, rfl, rfl, Int.le_refl _, by simp [empties]⟩
  | cons i l ih =>
    intro s n
    have e : empties s n (i :: l) = empties (emptyE (s, n) i).1 (emptyE (s, n) i).2 l := rfl
    rw [e]
    have := ih (emptyE (s, n) i).1 (emptyE (s, n) i).2
    have h2 : (emptyE (s, n) i).1.slots.length = s.slots.length ∧ (emptyE (s, n) i).1.things.length = s.things.length ∧ (emptyE (s, n) i).1.geo = s.geo ∧ n ≤ (emptyE (s, n) i).2 ∧ (emptyE (s, n) i).2 ≤ n + 1 := by
      simp only [emptyE]; cases emptyB s i <;> simp [emptyS] <;> omega
    simp only [List.length_cons]
    refine ⟨this.1.trans h2.1, this.2.1.trans h2.2.1, this.2.2.1.trans h2.2.2.1, by omega, by omega⟩

structure Less (s u : State) : Prop where
  lS : u.slots.length = s.slots.length
  lT : u.things.length = s.things.length
  geo : u.geo = s.geo
  bits : BitsOk s → BitsOk u
theorem Less.refl (s : State) : Less s s := ⟨rfl, rfl, rfl, id⟩
theorem Less.trans {s u v : State} (a : Less s u) (b : Less u v) : Less s v := ⟨b.lS.trans a.lS, b.lT.trans a.lT, b.geo.trans a.geo, fun h => b.bits (a.bits h)⟩
theorem empties_less {s : State} {n : Int} {l : List Int} : Less s (empties s n l).1 :=
  ⟨(empties_lens s n).1, (empties_lens s n).2.1, (empties_lens s n).2.2.1, (empties_keep s n).2⟩

theorem nodeL_length {x : Thing} (h : 0 ≤ x.bits ∧ x.bits ≤ 4) : (nodeL x).length ≤ 16 := by
  simp only [nodeL]
  cases hd : decide (x.ty = 2) with
  | false => simp
  | true =>
    simp only [cond_true, List.length_map, List.length_range]
    have : x.bits = 0 ∨ x.bits = 1 ∨ x.bits = 2 ∨ x.bits = 3 ∨ x.bits = 4 := by omega
    rcases this with e | e | e | e | e <;> (rw [e]; simp [p2])

theorem lost_less {s : State} {t : Nat} (h : lostB s t = true) (ht : t < s.things.length) : Less s (lostS s t).1 ∧ kinds (lostS s t).1 + 1 ≤ kinds s ∧ 0 ≤ (lostS s t).2 ∧ (BitsOk s → (lostS s t).2 ≤ 16) := by
  have el := empties_less (s := s) (n := 0) (l := nodeL (s.thing t))
  have ek := (empties_keep (l := nodeL (s.thing t)) s 0).1
  have en := empties_lens (l := nodeL (s.thing t)) s 0
  refine ⟨⟨el.lS, by simp only [lostS, List.length_set]; exact el.lT, el.geo, fun hb x hx => ?_⟩, ?_, by simp only [lostS]; omega, fun hb => ?_⟩
  · simp only [lostS] at hx
    rcases List.mem_or_eq_of_mem_set hx with h | rfl
    · exact el.bits hb x h
    · simp [Thing.zero]
  · have hty : (s.thing t).ty ≠ 0 := by
      simp [lostB] at h; exact h.1
    have e : (s.things.map (·.ty))[t]'(by simp; exact ht) = (s.thing t).ty := by simp [State.thing, List.getD, ht]
    simp only [kinds, lostS, List.map_set, ek]
    rw [List.countP_set (by simp; exact ht), e]
    have hpos : 0 < (s.things.map (·.ty)).countP fun y => !decide (y = 0) := by
      rw [List.countP_pos_iff]
      exact ⟨(s.thing t).ty, by rw [← e]; exact List.getElem_mem _, by simp [hty]⟩
    simp only [hty, decide_false, Bool.not_false, if_true, Thing.zero, decide_true, Bool.not_true, Bool.false_eq_true, if_false]
    omega
  · simp only [lostS]
    have := nodeL_length (x := s.thing t) ⟨(hb.at ht).1, (hb.at ht).2.1⟩
    omega

def rounds (u : State) (n : Int) (k : Nat) : State × Int × Bool := (List.range k).foldl lostE (u, n, false)
theorem round_zero {u : State} {n : Int} : rounds u n 0 = (u, n, false) := rfl
theorem round_succ {u : State} {n : Int} {k : Nat} : rounds u n (k + 1) = lostE (rounds u n k) k := by simp [rounds, List.range_succ, List.foldl_append]
theorem round_less {u : State} {n : Int} (hb : BitsOk u) : ∀ k, k ≤ u.things.length → Less u (rounds u n k).1 ∧ (kinds (rounds u n k).1 + bif (rounds u n k).2.2 then 1 else 0) ≤ kinds u ∧ n ≤ (rounds u n k).2.1 ∧ (rounds u n k).2.1 ≤ n + 16 * k
  | 0, _ => by simp [round_zero, Less.refl]
  | k + 1, hk => by
    obtain ⟨a, b, c, d⟩ := round_less hb k (by omega)
    rw [round_succ]
    generalize rounds u n k = p at *
    obtain ⟨v, m, f⟩ := p
    simp only at a b c d
    simp only [lostE]
    cases hl : lostB v k with
    | false => simp only [cond_false]; exact ⟨a, b, c, by omega⟩
    | true =>
      simp only [cond_true]
      obtain ⟨x, y, z, w⟩ := lost_less hl (by rw [a.lT]; omega)
      have w := w (a.bits hb)
      refine ⟨a.trans x, ?_, by omega, by omega⟩
      cases f <;> simp at b ⊢ <;> omega
theorem pass_rounds {u : State} {n : Int} : pass u n = rounds u n u.things.length := rfl
theorem kinds_le {u : State} : kinds u ≤ u.things.length := by
  simp only [kinds]
  refine Nat.le_trans List.countP_le_length ?_
  simp
end Go.Ax.M

/- All that came of one, in order: bounds, and an end: plain laws about the mirrors. Conditions: none. -/
namespace Go.Ax.M
open Go Go.Ax

def bh (up : List Int) : Nat → List Int → List Int
  | 0, _ => []
  | n + 1, l => l.flatMap fun i => i :: bh up n (fOf up i)
def Deep (up : List Int) : Nat → List Int → Prop
  | 0, l => l = []
  | n + 1, l => ∀ i ∈ l, Deep up n (fOf up i)
def fBelowS (up : List Int) (i : Int) : List Int := bif fMay up i then sortedI (bh up (up.length + 2) (fOf up i)) else []

section
variable {up : List Int}
theorem fOf_mem {i k : Int} : k ∈ fOf up i ↔ 0 ≤ k ∧ k < up.length ∧ up.getD k.toNat 0 = i := by
  unfold fOf
  simp only [pick, List.mem_map, List.mem_filter, List.mem_range, decide_eq_true_eq]
  constructor
  · rintro ⟨a, ⟨h1, h2⟩, rfl⟩
    exact ⟨by simp, by simpa using h1, by simpa using h2⟩
  · rintro ⟨h0, h1, h2⟩
    exact ⟨k.toNat, ⟨by omega, h2⟩, by simp; omega⟩
theorem fOf_nodup {i : Int} : (fOf up i).Nodup := by
  unfold fOf
  simp only [pick]
  refine List.Pairwise.map _ (fun a b h => ?_) (List.Pairwise.filter _ List.nodup_range)
  intro e; exact h (Int.ofNat.inj e)

theorem ends_mono : ∀ (n m : Nat) (a : Int), n ≤ m → fEnds up n a = true → fEnds up m a = true := by
  intro n
  induction n with
  | zero =>
    intro m a _ h
    cases m with
    | zero => exact h
    | succ m => simp only [fEnds] at h ⊢; rw [h]; rfl
  | succ n ih =>
    intro m a hm h
    cases m with
    | zero => omega
    | succ m =>
      simp only [fEnds, Bool.or_eq_true] at h ⊢
      exact h.imp id (ih m _ (by omega))

theorem deep_of {N : Nat} (hN : ∀ k : Nat, k < up.length → fEnds up N (k : Int) = true) : ∀ (n d : Nat) (l : List Int), N ≤ d + n → (∀ i ∈ l, fIs up i = true ∧ fEnds up d i = false) → Deep up n l
  | 0, d, l, hd, h => by
    cases l with
    | nil => rfl
    | cons i l =>
      exfalso
      obtain ⟨h1, h2⟩ := h i List.mem_cons_self
      simp [fIs] at h1
      have := ends_mono N d i (by omega) (by have := hN i.toNat (by omega); rwa [show ((i.toNat : Nat) : Int) = i by omega] at this)
      rw [h2] at this; cases this
  | n + 1, d, l, hd, h => by
    intro i hi
    obtain ⟨h1, h2⟩ := h i hi
    refine deep_of hN n (d + 1) _ (by omega) fun k hk => ?_
    obtain ⟨k0, k1, k2⟩ := fOf_mem.1 hk
    have hi0 : 0 ≤ i := by simp [fIs] at h1; omega
    have hk : fIs up k = true := by
      simp only [fIs, Bool.and_eq_true, decide_eq_true_eq, Bool.not_eq_true', decide_eq_false_iff_not]
      exact ⟨k0, k1, by rw [k2]; omega⟩
    exact ⟨hk, by simp only [fEnds, hk, k2, h2]; rfl⟩

theorem bh_append {n : Nat} {a b : List Int} : bh up n (a ++ b) = bh up n a ++ bh up n b := by
  cases n with
  | zero => rfl
  | succ n => simp [bh]
theorem bh_nil {n : Nat} : bh up n [] = [] := by cases n <;> rfl
theorem bh_cons {n : Nat} {i : Int} {l : List Int} : bh up (n + 1) (i :: l) = i :: (bh up n (fOf up i) ++ bh up (n + 1) l) := by simp [bh]
theorem bh_level {n : Nat} : ∀ l : List Int, (bh up (n + 1) l).length = l.length + (bh up n (l.flatMap (fOf up))).length
  | [] => by simp [bh_nil]
  | i :: l => by
    rw [bh_cons, List.length_cons, List.length_append, bh_level l, List.flatMap_cons, bh_append, List.length_append, List.length_cons]
    omega
theorem level_ok {l : List Int} (h : l.Nodup) (hr : ∀ i ∈ l, 0 ≤ i ∧ i < up.length) : (l.flatMap (fOf up)).Nodup ∧ ∀ i ∈ l.flatMap (fOf up), 0 ≤ i ∧ i < up.length := by
  refine ⟨?_, fun i hi => ?_⟩
  · induction l with
    | nil => simp
    | cons i l ih =>
      rw [List.nodup_cons] at h
      rw [List.flatMap_cons, List.nodup_append]
      refine ⟨fOf_nodup, ih h.2 fun j hj => hr j (List.mem_cons_of_mem _ hj), fun a ha b hb e => ?_⟩
      subst e
      obtain ⟨j, hj, hb⟩ := List.mem_flatMap.1 hb
      have := (fOf_mem.1 ha).2.2.symm.trans (fOf_mem.1 hb).2.2
      subst this
      exact h.1 hj
  · obtain ⟨a, ha, hi⟩ := List.mem_flatMap.1 hi
    obtain ⟨k0, k1, _⟩ := fOf_mem.1 hi
    exact ⟨k0, k1⟩
theorem nat_len : ∀ (n : Nat) (l : List Nat), l.Nodup → (∀ x ∈ l, x < n) → l.length ≤ n
  | 0, l, _, hr => by
    cases l with
    | nil => simp
    | cons a l => have := hr a List.mem_cons_self; omega
  | n + 1, l, h, hr => by
    have h1 := nat_len n (l.erase n) (h.erase n) fun x hx => by
      have := (h.mem_erase_iff).1 hx
      have := hr x this.2
      omega
    rw [List.length_erase] at h1
    split at h1 <;> omega
theorem nodup_len {n : Nat} {l : List Int} (h : l.Nodup) (hr : ∀ i ∈ l, 0 ≤ i ∧ i < (n : Int)) : l.length ≤ n := by
  have h1 : (l.map Int.toNat).Nodup := by
    rw [List.Nodup, List.pairwise_map]
    refine List.Pairwise.imp_of_mem (fun {a b} ha hb hab => ?_) h
    have := hr a ha; have := hr b hb
    intro e; exact hab (by omega)
  have := nat_len n _ h1 fun x hx => by
    obtain ⟨a, ha, rfl⟩ := List.mem_map.1 hx
    have := hr a ha
    omega
  simpa using this
theorem bh_len : ∀ (n : Nat) (l : List Int), l.Nodup → (∀ i ∈ l, 0 ≤ i ∧ i < up.length) → (bh up n l).length ≤ n * up.length
  | 0, l, _, _ => by simp [bh]
  | n + 1, l, h, hr => by
    rw [bh_level]
    have h1 := nodup_len h hr
    have h2 := level_ok h hr
    have h3 := bh_len n _ h2.1 h2.2
    rw [Nat.succ_mul]
    omega
theorem bh_part {n : Nat} {l : List Int} {i : Int} (hi : i ∈ l) : (bh up n (fOf up i)).length ≤ (bh up (n + 1) l).length := by
  induction l with
  | nil => simp at hi
  | cons a l ih =>
    rw [bh_cons, List.length_cons, List.length_append]
    rcases List.mem_cons.1 hi with rfl | h
    · omega
    · have := ih h; omega
theorem bh_self {n : Nat} {l : List Int} (h : Deep up n l) {x : Int} (hx : x ∈ l) : x ∈ bh up n l := by
  cases n with
  | zero => simp only [Deep] at h; subst h; simp at hx
  | succ n => simp only [bh, List.mem_flatMap]; exact ⟨x, hx, List.mem_cons_self⟩
theorem bh_some {n : Nat} {l : List Int} (h : Deep up n l) (hl : l ≠ []) : bh up n l ≠ [] := by
  obtain ⟨x, hx⟩ := List.exists_mem_of_ne_nil _ hl
  exact List.ne_nil_of_mem (bh_self h hx)
end
end Go.Ax.M

/- Bells and pages: plain laws about the mirrors. Conditions: none. -/
namespace Go.Ax.M
open Go Go.Ax

end Go.Ax.M

/- New things: plain laws about the mirrors. Conditions: none. -/
namespace Go.Ax.M
open Go Go.Ax

structure Makes (s u : State) (fr to n r : Nat) (T R : Thing) : Prop where
  inv : Inv s
  hg : u.geo = s.geo
  hS : u.slots.length = s.slots.length
  hT : u.things.length = s.things.length
  hsl : ∀ k, u.slot k = if k = to then ⟨⟨T.ty, (n : Int), 7, 0⟩, (fr : Int)⟩ else s.slot k
  hth : ∀ k, u.thing k = if k = r then R else if k = n then T else s.thing k
  hf : fr < s.slots.length
  ht : to < s.slots.length
  hn : n < s.things.length
  hr : r < s.things.length
  hn0 : (s.thing n).ty = 0
  hr1 : (s.thing r).ty = 1
  hR : R.ty = 1 ∧ R.from_ = (s.thing r).from_ ∧ tGood R = true
  hTg : tGood T = true ∧ 1 ≤ T.ty ∧ T.ty ≤ 5 ∧ T.from_ = 0
  hT2 : T.ty = 2 → T.base + p2 T.bits ≤ s.slots.length ∧ ∀ i : Nat, tHas T i = true → sOwner s i = -1
  hfr : (s.slot fr).cap.ty = 1 ∧ (s.slot fr).cap.th = r
  hte : cNone (s.slot to).cap = true
  ho : ∃ k, k < s.things.length ∧ tHas (s.thing k) to = true

theorem usedX_ok {s : State} {fr : Int} (h : Inv s) (h0 : 0 ≤ fr) (h1 : fr < s.slots.length) (h2 : (s.slot fr.toNat).cap.ty = 1) : 0 ≤ usedX s fr ∧ usedX s fr ≤ 4096 := by
  have hn : s.non fr.toNat := non_of (by omega)
  have ht := h.capT fr.toNat (by omega) hn
  rw [there_iff] at ht
  have hg := h.tGood _ (show (s.slot fr.toNat).cap.th.toNat < s.things.length by omega)
  have hty : (s.thing (s.slot fr.toNat).cap.th.toNat).ty = 1 := by rw [ht.2, h2]
  simp [M.tGood, hty, inB] at hg
  simp only [usedX]
  cases (!sGood s || (decide (fr < 0) || (decide ((s.slots.length : Int) ≤ fr) || !decide ((s.slot fr.toNat).cap.ty = 1)))) with
  | true => simp
  | false =>
    cases decide (((fKids (sForest s) fr).length : Int) = 0) with
    | true => simp
    | false => simp only [cond_false]; omega

theorem carveM_some {s : State} {th : Int} {c : Call} {y : State} (h : (carveM s th c).st = some y) : callGood c = true ∧ c.op = 1 ∧ (fCap s th c.a).2.2 = 0 ∧ (fCap s th c.a).2.1.ty = 1 ∧ (fEmpty s th c.b).2 = 0 ∧ (tCost c.x c.y).2 = true ∧ (carveN c s).2 = true ∧ 0 ≤ sFree s ∧
    usedX s (fCap s th c.a).1 + (tCost c.x c.y).1 ≤ (s.thing (fCap s th c.a).2.1.th.toNat).size ∧ carveM s th c = ⟨0, 0, sFree s, some y⟩ ∧
    y = carveS s c (fCap s th c.a).1 (fEmpty s th c.b).1 (usedX s (fCap s th c.a).1 + (tCost c.x c.y).1) (sFree s) (carveN c s).1 (fCap s th c.a).2.1 := by
  simp only [carveM] at h ⊢
  cases h1 : (!callGood c || !decide (c.op = 1)) with
  | true => simp [h1, Res.bad] at h
  | false =>
  simp only [h1, cond_false] at h ⊢
  cases h2 : decide ((fCap s th c.a).2.2 = 0) with
  | false => simp [h2, Res.bad] at h
  | true =>
  simp only [h2, Bool.not_true, cond_false] at h ⊢
  cases h3 : decide ((fCap s th c.a).2.1.ty = 1) with
  | false => simp [h3, Res.bad] at h
  | true =>
  simp only [h3, Bool.not_true, cond_false] at h ⊢
  cases h4 : rWithin 2 (fCap s th c.a).2.1.ri with
  | false => simp [h4, Res.bad] at h
  | true =>
  simp only [h4, Bool.not_true, cond_false] at h ⊢
  cases h5 : decide ((fEmpty s th c.b).2 = 0) with
  | false => simp [h5, Res.bad] at h
  | true =>
  simp only [h5, Bool.not_true, cond_false] at h ⊢
  cases h6 : (tCost c.x c.y).2 with
  | false => simp [h6, Res.bad] at h
  | true =>
  simp only [h6, Bool.not_true, cond_false] at h ⊢
  simp only [carveIn] at h ⊢
  cases h7 : (decide ((s.thing (fCap s th c.a).2.1.th.toNat).size < usedX s (fCap s th c.a).1 + (tCost c.x c.y).1) || (!(carveN c s).2 || decide (sFree s < 0))) with
  | true => simp [h7, Res.bad] at h
  | false =>
  simp only [h7, cond_false, Option.some.injEq] at h ⊢
  simp at h1 h2 h3 h5 h7
  exact ⟨h1.1, h1.2, h2, h3, h5, trivial, h7.2.1, by omega, by omega, by rw [h], h.symm⟩

theorem carveM_bad {s : State} {th : Int} {c : Call} (h : (carveM s th c).st = none) : ∃ e, e ≠ 0 ∧ carveM s th c = .bad e := by
  simp only [carveM] at h ⊢
  cases h1 : (!callGood c || !decide (c.op = 1)) with
  | true => exact ⟨1, by decide, rfl⟩
  | false =>
  simp only [h1, cond_false] at h ⊢
  cases h2 : decide ((fCap s th c.a).2.2 = 0) with
  | false => exact ⟨_, by simpa using h2, rfl⟩
  | true =>
  simp only [h2, Bool.not_true, cond_false] at h ⊢
  cases h3 : decide ((fCap s th c.a).2.1.ty = 1) with
  | false => exact ⟨7, by decide, rfl⟩
  | true =>
  simp only [h3, Bool.not_true, cond_false] at h ⊢
  cases h4 : rWithin 2 (fCap s th c.a).2.1.ri with
  | false => exact ⟨6, by decide, rfl⟩
  | true =>
  simp only [h4, Bool.not_true, cond_false] at h ⊢
  cases h5 : decide ((fEmpty s th c.b).2 = 0) with
  | false => exact ⟨_, by simpa using h5, rfl⟩
  | true =>
  simp only [h5, Bool.not_true, cond_false] at h ⊢
  cases h6 : (tCost c.x c.y).2 with
  | false => exact ⟨1, by decide, rfl⟩
  | true =>
  simp only [h6, Bool.not_true, cond_false] at h ⊢
  simp only [carveIn] at h ⊢
  cases h7 : (decide ((s.thing (fCap s th c.a).2.1.th.toNat).size < usedX s (fCap s th c.a).1 + (tCost c.x c.y).1) || (!(carveN c s).2 || decide (sFree s < 0))) with
  | true => exact ⟨8, by decide, rfl⟩
  | false => simp [h7] at h

theorem carveM_none {s : State} {th : Int} {c : Call} (h : (carveM s th c).st = none) : (carveM s th c).err ≠ 0 := by
  obtain ⟨e, he, h2⟩ := carveM_bad h
  rw [h2]; exact he

theorem sFree_ok {s : State} (h : 0 ≤ sFree s) : (sFree s).toNat < s.things.length ∧ (s.thing (sFree s).toNat).ty = 0 := by
  simp only [sFree] at h ⊢
  cases hg : sGood s with
  | false => rw [hg] at h; simp at h
  | true =>
    rw [hg] at h
    simp only [cond_true] at h ⊢
    rcases findI_spec (fun k => decide ((s.thing k).ty = 0)) s.things.length with ⟨h0, _⟩ | ⟨k, hk, h1, _, h3⟩
    · omega
    · rw [h3]; simp at h1 ⊢; exact ⟨hk, h1⟩

end Go.Ax.M
