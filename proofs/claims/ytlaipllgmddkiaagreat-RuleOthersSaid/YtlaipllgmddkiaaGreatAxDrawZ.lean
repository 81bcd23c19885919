/- Regions that draw their order: one walk in an order of our choice serves all. Conditions: none. -/
import Derived.Test.YtlaipllgmddkiaaGreatAxFrontZ
import Derived.Orders
set_option linter.all false
namespace Go.Ax
open Go Go.RowKit
theorem testBit_fold (acc : List Nat) (j : Nat) : ∀ (es : List Nat) (s : Nat), (es.foldl (fun s e => s ||| (2 ^ e) ||| acc.getD e 0) s).testBit j = true ↔ s.testBit j = true ∨ ∃ e ∈ es, e = j ∨ (acc.getD e 0).testBit j = true
 | [], s => by simp
 | e :: es, s => by
  rw [List.foldl_cons, testBit_fold acc j es]
  simp only [Nat.testBit_or, Bool.or_eq_true, Nat.testBit_two_pow, decide_eq_true_eq, List.mem_cons, exists_eq_or_imp]
  constructor
  ·rintro ((h | h) | h)
   ·rcases h with h | h
    ·exact .inl h
    ·exact .inr (.inl (.inl h))
   ·exact .inr (.inl (.inr h))
   ·exact .inr (.inr h)
  ·rintro (h | (h | h) | h)
   ·exact .inl (.inl (.inl h))
   ·exact .inl (.inl (.inr h))
   ·exact .inl (.inr h)
   ·exact .inr h
theorem befs_prefix : ∀ (aft : List (List Nat)) (acc : List Nat), ∃ r, befs aft acc = acc ++ r ∧ r.length = aft.length
 | [], acc => ⟨[], by simp [befs], rfl⟩
 | es :: l, acc => by
  obtain ⟨r, h, hl⟩ := befs_prefix l (acc ++ [es.foldl (fun s e => s ||| (2 ^ e) ||| acc.getD e 0) 0])
  exact ⟨_ :: r, by rw [befs, h, List.append_assoc]; rfl, by simp [hl]⟩
theorem pre_step : ∀ (aft : List (List Nat)) (acc : List Nat), backOk aft acc.length = true → ∀ (i : Nat) (es : List Nat), aft[i]? = some es → ∀ j, preOf (befs aft acc) (acc.length + i) j = true →
 ∃ e ∈ es, e = j ∨ preOf (befs aft acc) e j = true
 | [], _, _, i, es, h, _, _ => by simp at h
 | es0 :: l, acc, hb, i, es, h, j, hp => by
  simp only [backOk, Bool.and_eq_true] at hb
  cases i with
  | zero =>
   simp only [List.getElem?_cons_zero, Option.some.injEq] at h; subst h
   obtain ⟨r, hr, -⟩ := befs_prefix l (acc ++ [es0.foldl (fun s e => s ||| (2 ^ e) ||| acc.getD e 0) 0])
   have hbf : befs (es0 :: l) acc = acc ++ (es0.foldl (fun s e => s ||| (2 ^ e) ||| acc.getD e 0) 0 :: r) := by rw [befs, hr, List.append_assoc]; rfl
   have hget : (befs (es0 :: l) acc).getD acc.length 0 = es0.foldl (fun s e => s ||| (2 ^ e) ||| acc.getD e 0) 0 := by
    rw [hbf]; simp [List.getD]
   unfold preOf at hp
   rw [Nat.add_zero, hget, testBit_fold] at hp
   rcases hp with hp | ⟨e, he, hp⟩
   ·simp at hp
   ·refine ⟨e, he, hp.imp id fun hp => ?_⟩
    have hlt : e < acc.length := by simpa using (List.all_eq_true.1 hb.1) e he
    unfold preOf
    rw [hbf]
    simp only [List.getD, List.getElem?_append_left hlt]
    simpa [List.getD] using hp
  | succ i =>
   have ih := pre_step l (acc ++ [es0.foldl (fun s e => s ||| (2 ^ e) ||| acc.getD e 0) 0]) (by simpa using hb.2) i es (by simpa using h) j (by
    rw [befs] at hp
    simpa [Nat.add_assoc, Nat.add_comm 1 i] using hp)
   rw [befs]; exact ih
theorem pre_listed {aft : List (List Nat)} (hb : backOk aft 0 = true) (L : Nat → Prop) (hL : ∀ i es, aft[i]? = some es → L i → ∀ e ∈ es, L e) :
 ∀ (i : Nat) (es : List Nat), aft[i]? = some es → (∀ e ∈ es, L e) → ∀ j, preOf (befs aft []) i j = true → L j := by
 have hback : ∀ (l : List (List Nat)) (k : Nat), backOk l k = true → ∀ i es, l[i]? = some es → ∀ e ∈ es, e < k + i := by
  intro l
  induction l with
  | nil => intro k _ i es h; simp at h
  | cons es0 l ih =>
   intro k hk i es h e he
   simp only [backOk, Bool.and_eq_true] at hk
   cases i with
   | zero => simp only [List.getElem?_cons_zero, Option.some.injEq] at h; subst h; simpa using (List.all_eq_true.1 hk.1) e he
   | succ i => have := ih (k + 1) hk.2 i es (by simpa using h) e he; omega
 intro i
 induction i using Nat.strongRecOn with
 | _ i ih =>
  intro es h hes j hp
  obtain ⟨e, he, hj⟩ := pre_step aft [] hb i es h j (by simpa using hp)
  rcases hj with rfl | hj
  ·exact hes _ he
  ·have hlt := hback aft 0 hb i es h e he
   cases hae : aft[e]? with
   | none =>
    exfalso
    have : (befs aft []).length = aft.length := by obtain ⟨r, hr, hl⟩ := befs_prefix aft []; rw [hr]; simpa using hl
    have hge : aft.length ≤ e := by rw [List.getElem?_eq_none_iff] at hae; exact hae
    unfold preOf at hj
    rw [List.getD, List.getElem?_eq_none (by omega)] at hj
    simp at hj
   | some es' => exact ih e (by omega) es' hae (fun e' he' => hL e es' hae (hes e he) e' he') j hj
theorem opersOk_length {P : Program} {R : Array Oper} : ∀ {l : List AOper} {r : List Oper}, opersOk P R l r = true → l.length = r.length
 | [], [], _ => rfl
 | a :: l, o :: r, h => by simp only [opersOk, Bool.and_eq_true] at h; simp [opersOk_length h.2]
 | [], _ :: _, h => by simp [opersOk] at h
 | _ :: _, [], h => by simp [opersOk] at h
theorem opersOk_get {P : Program} {R : Array Oper} : ∀ {l : List AOper} {r : List Oper}, opersOk P R l r = true → ∀ {i : Nat} {a : AOper} {o : Oper}, l[i]? = some a → r[i]? = some o → operOk P R a o = true
 | [], _, _, i, a, o, h, _ => by simp at h
 | a :: l, [], h, _, _, _, _, _ => by simp [opersOk] at h
 | a :: l, o :: r, h, i, a', o', ha, ho => by
  simp only [opersOk, Bool.and_eq_true] at h
  cases i with
  | zero => simp at ha ho; subst ha; subst ho; exact h.1
  | succ i => exact opersOk_get h.2 (by simpa using ha) (by simpa using ho)
theorem aftOk_get : ∀ {l : List (List Nat)} {r : List Oper}, aftOk l r = true → ∀ {i : Nat} {o : Oper}, r[i]? = some o → l[i]? = some ((o.after.toList.filter (Region.binds .any)).map (·.on))
 | [], [], _, i, o, h => by simp at h
 | es :: l, o :: r, h, i, o', ho => by
  simp only [aftOk, Bool.and_eq_true, beq_iff_eq] at h
  cases i with
  | zero => simp at ho; subst ho; simp [h.1]
  | succ i => simpa using aftOk_get h.2 (by simpa using ho)
 | [], _ :: _, h, _, _, _ => by simp [aftOk] at h
 | _ :: _, [], h, _, _, _ => by simp [aftOk] at h
structure Ent where
 idx : Nat
 dst : Option Nat
 v : AVal
def look (T0 : List AVal) : List Ent → (Nat → Bool) → Nat → AVal
 | [], _, t => T0.getD t .top
 | e :: D, L, t => if L e.idx = true ∧ e.dst = some t ∧ t < T0.length then e.v else look T0 D L t
def idxs (D : List Ent) : List Nat := D.map (·.idx)
theorem look_congr {T0 : List AVal} : ∀ {D : List Ent} {L L' : Nat → Bool} {t : Nat}, (∀ e ∈ D, e.dst = some t → L e.idx = L' e.idx) → look T0 D L t = look T0 D L' t
 | [], _, _, _, _ => rfl
 | e :: D, L, L', t, h => by
  simp only [look]
  have ih := look_congr (T0 := T0) (D := D) (fun e he => h e (List.mem_cons_of_mem _ he))
  by_cases hd : e.dst = some t
  ·rw [h e List.mem_cons_self hd, ih]
  ·simp only [hd, false_and, and_false, if_false]; exact ih
theorem look_skip {T0 : List AVal} {t : Nat} {L : Nat → Bool} : ∀ {D1 D2 : List Ent}, (∀ e ∈ D1, e.dst = some t → L e.idx = false) → look T0 (D1 ++ D2) L t = look T0 D2 L t
 | [], _, _ => rfl
 | e :: D1, D2, h => by
  simp only [List.cons_append, look]
  have ih := look_skip (T0 := T0) (D1 := D1) (D2 := D2) (fun e he => h e (List.mem_cons_of_mem _ he))
  rw [if_neg, ih]
  rintro ⟨h1, h2, -⟩
  rw [h e List.mem_cons_self h2] at h1; cases h1
def okD (ops : List AOper) (bs : List Nat) : List Ent → Prop
 | [] => True
 | e :: D => e.idx ∉ idxs D ∧ e.idx < ops.length ∧ (∀ k, k < ops.length → preOf bs e.idx k = true → k ∈ idxs D) ∧ (∃ o, ops[e.idx]? = some o ∧ o.dst = e.dst) ∧ okD ops bs D
def Pend (ops : List AOper) (T0 : List AVal) (log : PLog) (H : Heap) (e : Ent) (D : List Ent) : Prop :=
 ∃ (Ti : List AVal) (o : AOper), ops[e.idx]? = some o ∧ (∀ t, Ti.getD t .top = look T0 D (fun _ => true) t) ∧
  ((o.op.quiet = true ∧ (∀ d b, o.guard = some (d, b) → gof (Ti.getD d .top) = some (some b)) ∧ aStep Ti H o.op = some (e.v, H) ∧ (o.op.pure = true ∨ ∃ p : Heap → Prop, (e.idx, p) ∈ log ∧ ∀ H1, p H1 → aStep Ti H1 o.op = some (e.v, H1))) ∨
   (∃ d b g, o.guard = some (d, b) ∧ gof (Ti.getD d .top) = some g ∧ g ≠ some b ∧ e.v = skipV))
def pendD (ops : List AOper) (T0 : List AVal) (log : PLog) (H : Heap) (L : Nat → Bool) : List Ent → Prop
 | [] => True
 | e :: D => (L e.idx = true ∨ Pend ops T0 log H e D) ∧ pendD ops T0 log H L D
theorem okD_split {ops : List AOper} {bs : List Nat} : ∀ {D : List Ent} {e : Ent}, okD ops bs D → e ∈ D → ∃ D1 D2, D = D1 ++ e :: D2 ∧ okD ops bs (e :: D2) ∧ (∀ f ∈ D1, f.idx ∉ idxs (e :: D2) ∧ ∃ o, ops[f.idx]? = some o ∧ o.dst = f.dst)
 | [], _, _, h => by cases h
 | f :: D, e, hok, h => by
  rcases List.mem_cons.1 h with rfl | h
  ·exact ⟨[], D, rfl, hok, fun f hf => by cases hf⟩
  ·obtain ⟨h1, h2, h3, h4, h5⟩ := hok
   obtain ⟨D1, D2, rfl, q1, q2⟩ := okD_split h5 h
   refine ⟨f :: D1, D2, rfl, q1, fun g hg => ?_⟩
   rcases List.mem_cons.1 hg with rfl | hg
   ·exact ⟨fun hh => h1 (by simp only [idxs, List.map_append, List.mem_append]; exact .inr hh), h4⟩
   ·exact q2 g hg
theorem okD_pre {ops : List AOper} {bs : List Nat} : ∀ {D1 D2 : List Ent} {f : Ent}, okD ops bs (D1 ++ D2) → f ∈ D1 → f.idx < ops.length ∧ ∀ k, k < ops.length → preOf bs f.idx k = true → k ∈ idxs (D1 ++ D2)
 | [], _, _, _, h => by cases h
 | g :: D1, D2, f, hok, h => by
  obtain ⟨h1, h2, h3, h4, h5⟩ := hok
  rcases List.mem_cons.1 h with rfl | h
  ·exact ⟨h2, fun k hk hp => by have := h3 k hk hp; simp only [idxs, List.cons_append, List.map_cons, List.mem_cons]; exact .inr this⟩
  ·obtain ⟨q1, q2⟩ := okD_pre h5 h
   exact ⟨q1, fun k hk hp => by have := q2 k hk hp; simp only [idxs, List.cons_append, List.map_cons, List.mem_cons] at *; exact .inr this⟩
theorem okD_tail {ops : List AOper} {bs : List Nat} : ∀ {D1 D2 : List Ent}, okD ops bs (D1 ++ D2) → okD ops bs D2
 | [], _, h => h
 | _ :: D1, D2, h => okD_tail (D1 := D1) h.2.2.2.2
theorem idxs_append (D1 D2 : List Ent) : idxs (D1 ++ D2) = idxs D1 ++ idxs D2 := List.map_append ..
theorem okD_apart {ops : List AOper} {bs : List Nat} {f : Ent} : ∀ {E1 E2 : List Ent}, okD ops bs (E1 ++ E2) → f ∈ E1 → f.idx ∉ idxs E2
 | [], _, _, h => by cases h
 | g :: E1, E2, hok, h => by
  have q5 := hok.2.2.2.2
  have q1 : g.idx ∉ idxs (E1 ++ E2) := hok.1
  rcases List.mem_cons.1 h with rfl | h
  ·intro hh
   rw [idxs_append] at q1
   exact q1 (List.mem_append_right _ hh)
  ·exact okD_apart q5 h
theorem pendD_get {ops : List AOper} {T0 : List AVal} {log : PLog} {H : Heap} {L : Nat → Bool} : ∀ {D1 D2 : List Ent} {e : Ent}, pendD ops T0 log H L (D1 ++ e :: D2) → L e.idx = true ∨ Pend ops T0 log H e D2
 | [], _, _, h => h.1
 | _ :: D1, D2, e, h => pendD_get (D1 := D1) h.2
theorem pendD_mono {ops : List AOper} {T0 : List AVal} {log log' : PLog} {H H' : Heap} {L L' : Nat → Bool} : ∀ {D : List Ent}, pendD ops T0 log H L D → (∀ e ∈ D, L e.idx = true → L' e.idx = true) →
 (∀ e ∈ D, L' e.idx = false → ∀ D2, Pend ops T0 log H e D2 → Pend ops T0 log' H' e D2) → pendD ops T0 log' H' L' D
 | [], _, _, _ => trivial
 | e :: D, h, h1, h2 => by
  refine ⟨?_, pendD_mono h.2 (fun e he => h1 e (List.mem_cons_of_mem _ he)) (fun e he => h2 e (List.mem_cons_of_mem _ he))⟩
  rcases h.1 with h | h
  ·exact .inl (h1 e List.mem_cons_self h)
  ·cases hL : L' e.idx with
   | true => exact .inl rfl
   | false => exact .inr (h2 e List.mem_cons_self hL D h)
theorem pairs_spec {ops : List AOper} {bs : List Nat} (h : pairsOk ops bs = true) {i j : Nat} {a b : AOper} (ha : ops[i]? = some a) (hb : ops[j]? = some b) (hij : i ≠ j) {t : Nat} (hd : b.dst = some t) (ht : t ∈ a.looks ∨ a.dst = some t) :
 preOf bs i j = true ∨ preOf bs j i = true := by
 have hi : i < ops.length := (List.getElem?_eq_some_iff.1 ha).1
 have hj : j < ops.length := (List.getElem?_eq_some_iff.1 hb).1
 unfold pairsOk at h
 rw [List.all_eq_true] at h
 rcases Nat.lt_or_gt_of_ne hij with hlt | hlt
 ·have h1 := h j (List.mem_range.2 hj)
  rw [List.all_eq_true] at h1
  have h2 := h1 i (List.mem_range.2 hlt)
  simp only [ha, hb, hd, Bool.or_eq_true, Bool.and_eq_true, Bool.not_eq_true', bne_iff_ne, ne_eq] at h2
  rcases h2 with h2 | ⟨⟨h2, h3⟩, h4⟩
  ·exact .inr h2
  ·exfalso
   rcases ht with ht | ht
   ·rw [List.contains_eq_mem, decide_eq_false_iff_not] at h2; exact h2 ht
   ·exact h3 ht
 ·have h1 := h i (List.mem_range.2 hi)
  rw [List.all_eq_true] at h1
  have h2 := h1 j (List.mem_range.2 hlt)
  simp only [ha, hb, hd, Bool.or_eq_true, Bool.and_eq_true, Bool.not_eq_true'] at h2
  rcases h2 with h2 | ⟨h2, h3⟩
  ·exact .inl h2
  ·exfalso
   rcases ht with ht | ht
   ·rw [List.contains_eq_mem, decide_eq_false_iff_not] at h3; exact h3 ht
   ·rw [ht] at h2
    simp at h2
theorem quiet_plain {op : AOp} (h : op.quiet = true) : op.plainOp = op := by cases op <;> first | rfl | (simp [AOp.quiet] at h)
theorem plain_nb {op : AOp} (h : ∀ j b, op ≠ .born j b) : op.plainOp = op := by
 unfold AOp.plainOp
 split
 ·rename_i j b; exact absurd rfl (h j b)
 ·rfl
theorem Ext.back {σ σ' : Sig} {H : Heap} (h : Ext σ H σ' H) : Grow σ' H σ H := by
 refine ⟨Nat.le_refl _, fun {o s xs ro} ho => ?_, fun {o es} ho => ⟨⟨es, ho⟩, (h.map ho).2.symm⟩, fun {o s p} ho => ⟨⟨s, p, ho⟩, (h.iter ho).2.symm⟩⟩
 obtain ⟨xs', h1, h2, h3⟩ := h.arr ho
 rw [ho] at h1; injection h1 with h1; injection h1 with _ h1 _; subst h1
 exact ⟨xs, ho, Nat.le_refl _, fun _ => (h3 rfl).symm⟩
theorem born_slots {nb : Nat} : ∀ {ops : List AOper} {l : List Nat}, bornsOk nb ops l = true → (∀ (i : Nat) (o : AOper) (j : Nat) (b : ABirth), ops[i]? = some o → o.op = .born j b → j < nb ∧ j ∉ l) ∧
 (∀ (i i' : Nat) (o o' : AOper) (j j' : Nat) (b b' : ABirth), ops[i]? = some o → ops[i']? = some o' → o.op = .born j b → o'.op = .born j' b' → i ≠ i' → j ≠ j')
 | [], _, _ => ⟨fun i o j b h => by simp at h, fun i i' o o' j j' b b' h => by simp at h⟩
 | a :: ops, l, h => by
  by_cases hb : ∃ j b, a.op = .born j b
  ·obtain ⟨j0, b0, ha⟩ := hb
   simp only [bornsOk, ha, Bool.and_eq_true, decide_eq_true_eq, Bool.not_eq_true', List.contains_eq_mem, decide_eq_false_iff_not] at h
   obtain ⟨⟨h1, h2⟩, h3⟩ := h
   obtain ⟨g1, g2⟩ := born_slots h3
   constructor
   ·intro i o j b ho hop
    cases i with
    | zero => simp at ho; subst ho; rw [ha] at hop; injection hop with e _; subst e; exact ⟨h1, h2⟩
    | succ i =>
     obtain ⟨q1, q2⟩ := g1 i o j b (by simpa using ho) hop
     exact ⟨q1, fun hh => q2 (List.mem_cons_of_mem _ hh)⟩
   ·intro i i' o o' j j' b b' ho ho' hop hop' hne
    cases i with
    | zero =>
     cases i' with
     | zero => exact absurd rfl hne
     | succ i' =>
      simp at ho; subst ho; rw [ha] at hop; injection hop with e _; subst e
      have := (g1 i' o' j' b' (by simpa using ho') hop').2
      exact fun e => this (by rw [← e]; exact List.mem_cons_self)
    | succ i =>
     cases i' with
     | zero =>
      simp at ho'; subst ho'; rw [ha] at hop'; injection hop' with e _; subst e
      have := (g1 i o j b (by simpa using ho) hop).2
      exact fun e => this (by rw [e]; exact List.mem_cons_self)
     | succ i' => exact g2 i i' o o' j j' b b' (by simpa using ho) (by simpa using ho') hop hop' (by omega)
  ·have hnb : ∀ j b, a.op ≠ .born j b := fun j b e => hb ⟨j, b, e⟩
   have h' : bornsOk nb ops l = true := by
    unfold bornsOk at h
    split at h
    ·rename_i k b hop; exact absurd hop (hnb k b)
    ·exact h
   obtain ⟨g1, g2⟩ := born_slots h'
   constructor
   ·intro i o j b ho hop
    cases i with
    | zero => simp at ho; subst ho; exact absurd hop (hnb j b)
    | succ i => exact g1 i o j b (by simpa using ho) hop
   ·intro i i' o o' j j' b b' ho ho' hop hop' hne
    cases i with
    | zero => simp at ho; subst ho; exact absurd hop (hnb j b)
    | succ i =>
     cases i' with
     | zero => simp at ho'; subst ho'; exact absurd hop' (hnb j' b')
     | succ i' => exact g2 i i' o o' j j' b b' (by simpa using ho) (by simpa using ho') hop hop' (by omega)
theorem xOne_gh {P : Program} {o : AOper} {K : St → Prop} {s : St} (h : xOne P o K s) : xOne P o (fun s' => K s' ∧ ∀ k : Nat, s.H[k]? = some .ghost → s'.H[k]? = some .ghost) s := by
 unfold xOne at h ⊢
 split at h
 ·exact h.info.mono fun v H' ⟨a, b⟩ => ⟨a, fun k hk => (b k hk).1⟩
 ·split at h
  ·exact ⟨h.1, h.2.info.mono fun v H' ⟨a, b⟩ => ⟨a, fun k hk => (b k hk).1⟩⟩
  ·exact h.elim
 ·split at h
  ·rename_i hs; exact ⟨h, fun k hk => (aStep_fill (x := .ghost) hk hs).2⟩
  ·exact h.elim
section drawn
variable {P : Program} {R : Array Oper} {ops : List AOper} {aft : List (List Nat)} {n0 : Nat} {T0 : List AVal} {B : Nat → Prop} {σ0 : Sig} {H0 : Heap} {w0 : World} {K : St → Prop} {Q : Exit → Act → World → Prop}
def Lof (listed : Array Bool) (i : Nat) : Bool := listed.getD i true
structure Inv (P : Program) (ops : List AOper) (aft : List (List Nat)) (n0 : Nat) (T0 : List AVal) (B : Nat → Prop) (σ0 : Sig) (H0 : Heap) (w0 : World) (K : St → Prop) (listed : Array Bool) (D : List Ent) (rest : List Nat) (log : PLog) (s : St) (σ : Sig) (a : Act) (w : World) : Prop where
 size : listed.size = ops.length
 inD : ∀ i, i < ops.length → Lof listed i = true → i ∈ idxs D
 ok : okD ops (befs aft []) D
 ord : ordOk ops (befs aft []) rest (idxs D) = true
 walk : xDrawn P n0 (preOf (befs aft [])) (ordOps ops rest) log K s
 eager : ∀ t, s.T.getD t .top = look T0 D (fun _ => true) t
 len : s.T.length = T0.length
 pend : pendD ops T0 log s.H (Lof listed) D
 tlen : a.tmps.size = T0.length
 conc : ∀ t v, a.tmps[t]? = some v → VR σ s.H (look T0 D (Lof listed) t) v
 down : ∀ i es, aft[i]? = some es → Lof listed i = true → ∀ e ∈ es, Lof listed e = true
 rel : RelH B σ s.H w
 ext : Ext σ0 H0 σ s.H
 below : Kept B w0 w
 defers : a.defers = []
 logst : LogSt log
 ghosts : ∀ (i : Nat) (o : AOper) (j : Nat) (b : ABirth), ops[i]? = some o → o.op = .born j b → i ∉ idxs D → s.H[n0 + j]? = some .ghost
 real : ∃ vs, VRs σ s.H s.T vs
 base : H0.length ≤ n0
theorem Inv.vrs {listed : Array Bool} {D : List Ent} {rest : List Nat} {log : PLog} {s : St} {σ : Sig} {a : Act} {w : World} (h : Inv P ops aft n0 T0 B σ0 H0 w0 K listed D rest log s σ a w) :
 VRs σ s.H ((List.range T0.length).map (look T0 D (Lof listed))) a.tmps.toList := by
 rw [VRs_iff]
 refine ⟨by simp [h.tlen], fun i hi hi' => ?_⟩
 simp only [List.getElem_map, List.getElem_range]
 exact h.conc i _ (by rw [← Array.getElem?_toList]; exact List.getElem?_eq_getElem hi')
theorem rangeT_getD (f : Nat → AVal) (n t : Nat) (hf : ∀ t, n ≤ t → f t = .top) : ((List.range n).map f).getD t .top = f t := by
 by_cases h : t < n
 ·simp [List.getD, h]
 ·simp [List.getD, h, hf t (by omega)]
theorem look_out {D : List Ent} {L : Nat → Bool} {t : Nat} (h : T0.length ≤ t) : look T0 D L t = .top := by
 induction D with
 | nil => simp [look, List.getD, h]
 | cons e D ih => simp only [look]; rw [if_neg (by omega)]; exact ih
theorem TL_getD (D : List Ent) (L : Nat → Bool) (t : Nat) : ((List.range T0.length).map (look T0 D L)).getD t .top = look T0 D L t := rangeT_getD _ _ _ (fun t h => look_out h)
theorem Inv.looks (hp : pairsOk ops (befs aft []) = true) (hb : backOk aft 0 = true) {listed : Array Bool} {D : List Ent} {rest : List Nat} {log : PLog} {s : St} {σ : Sig} {a : Act} {w : World}
 (h : Inv P ops aft n0 T0 B σ0 H0 w0 K listed D rest log s σ a w) {i : Nat} {es : List Nat} {o : AOper} (hi : aft[i]? = some es) (ho : ops[i]? = some o) (hL : Lof listed i = false) (hr : ∀ e ∈ es, Lof listed e = true)
 {D1 D2 : List Ent} {t : Nat} (ht : t ∈ o.looks ∨ o.dst = some t) :
 (∀ e, D = D1 ++ e :: D2 → e.idx = i → look T0 D (Lof listed) t = look T0 D2 (fun _ => true) t ∧ ∀ f ∈ D1, f.dst = some t → Lof listed f.idx = false) ∧ (i ∉ idxs D → look T0 D (Lof listed) t = look T0 D (fun _ => true) t) := by
 have hpre := pre_listed hb (fun i => Lof listed i = true) (fun i es h1 h2 => h.down i es h1 h2) i es hi hr
 have hin : i < ops.length := (List.getElem?_eq_some_iff.1 ho).1
 -- whoever writes there and has been done ahead
 have ahead : ∀ (f : Ent), f ∈ D → f.dst = some t → f.idx ≠ i → (preOf (befs aft []) f.idx i = true → Lof listed f.idx = false) ∧ (preOf (befs aft []) i f.idx = true ∨ preOf (befs aft []) f.idx i = true) := by
  intro f hf hd hne
  obtain ⟨E1, E2, rfl, q1, -⟩ := okD_split h.ok hf
  obtain ⟨-, hfl, -, ⟨of, hof, hofd⟩, -⟩ := q1
  refine ⟨fun hpf => ?_, pairs_spec hp ho hof (Ne.symm hne) (hofd.trans hd) ht⟩
  cases hLf : Lof listed f.idx with
  | false => rfl
  | true =>
   exfalso
   cases haf : aft[f.idx]? with
   | none =>
    have hlen : (befs aft []).length = aft.length := by obtain ⟨r, hr, hl⟩ := befs_prefix aft []; rw [hr]; simpa using hl
    rw [List.getElem?_eq_none_iff] at haf
    unfold preOf at hpf
    rw [List.getD, List.getElem?_eq_none (by omega)] at hpf
    simp at hpf
   | some es' =>
    have := pre_listed hb (fun i => Lof listed i = true) (fun i es h1 h2 => h.down i es h1 h2) f.idx es' haf (h.down _ _ haf hLf) i hpf
    rw [hL] at this; cases this
 constructor
 ·rintro e rfl rfl
  have hok := h.ok
  have hsplit := okD_tail (D1 := D1) hok
  obtain ⟨hnin, -, hpr, -, hok2⟩ := hsplit
  have hd1 : ∀ f ∈ D1, f.idx ≠ e.idx := by
   intro f hf heq
   have hall : ∀ {E1 E2 : List Ent}, okD ops (befs aft []) (E1 ++ E2) → f ∈ E1 → f.idx ∉ idxs E2 := fun h1 h2 => okD_apart h1 h2
   exact hall hok hf (by simp [idxs, heq])
  have later : ∀ f ∈ D1, f.dst = some t → Lof listed f.idx = false := by
   intro f hf hd
   obtain ⟨g1, g2⟩ := ahead f (by simp [hf]) hd (hd1 f hf)
   rcases g2 with g2 | g2
   ·-- f comes ahead of i, and was done behind it
    exfalso
    have hfl := (okD_pre hok hf).1
    have := hpr f.idx hfl g2
    have hall : ∀ {E1 E2 : List Ent}, okD ops (befs aft []) (E1 ++ E2) → f ∈ E1 → f.idx ∉ idxs E2 := fun h1 h2 => okD_apart h1 h2
    exact hall hok hf (by simp only [idxs, List.map_cons, List.mem_cons]; exact .inr this)
   ·exact g1 g2
  refine ⟨?_, later⟩
  rw [look_skip (D1 := D1) (D2 := e :: D2)]
  ·simp only [look, hL, Bool.false_eq_true, false_and, if_false]
   refine look_congr fun f hf hd => ?_
   have hne : f.idx ≠ e.idx := fun heq => hnin (by rw [← heq]; exact List.mem_map_of_mem hf)
   obtain ⟨g1, g2⟩ := ahead f (by simp [hf]) hd hne
   rcases g2 with g2 | g2
   ·exact hpre _ g2
   ·-- it was done ahead of i, and i ahead of it
    exfalso
    obtain ⟨E1, E2, rfl, q1, -⟩ := okD_split hok2 hf
    have := q1.2.2.1 e.idx hin g2
    exact hnin (by simp only [idxs, List.map_append, List.map_cons, List.mem_append, List.mem_cons]; exact .inr (.inr this))
  ·exact later
 ·intro hni
  refine look_congr fun f hf hd => ?_
  have hne : f.idx ≠ i := fun heq => hni (by rw [← heq]; exact List.mem_map_of_mem hf)
  obtain ⟨g1, g2⟩ := ahead f hf hd hne
  rcases g2 with g2 | g2
  ·exact hpre _ g2
  ·exfalso
   obtain ⟨E1, E2, rfl, q1, -⟩ := okD_split h.ok hf
   have := q1.2.2.1 i hin g2
   exact hni (by simp only [idxs, List.map_append, List.map_cons, List.mem_append, List.mem_cons]; exact .inr (.inr this))
theorem ordOk_cons {bs : List Nat} {i : Nat} {rest done : List Nat} (h : ordOk ops bs (i :: rest) done = true) : i ∉ done ∧ i < ops.length ∧ (∀ j, j < ops.length → preOf bs i j = true → j ∈ done) ∧
 (∃ o, ops[i]? = some o ∧ (o.op.quiet = true ∨ ∀ k ∈ rest, preOf bs k i = true ∨ ∃ o', ops[k]? = some o' ∧ o'.op.mov = true)) ∧ ordOk ops bs rest (i :: done) = true := by
 simp only [ordOk, Bool.and_eq_true, Bool.not_eq_true', decide_eq_true_eq] at h
 obtain ⟨⟨⟨⟨h1, h2⟩, h3⟩, h4⟩, h5⟩ := h
 refine ⟨by rw [List.contains_eq_mem, decide_eq_false_iff_not] at h1; exact h1, h2, fun j hj hp => ?_, ?_, h5⟩
 ·have := (List.all_eq_true.1 h3) j (List.mem_range.2 hj)
  rw [hp] at this
  simpa using this
 ·split at h4
  ·rename_i o ho
   refine ⟨o, ho, ?_⟩
   rw [Bool.or_eq_true] at h4
   refine h4.imp id fun h k hk => ?_
   have := List.all_eq_true.1 h k hk
   rw [Bool.or_eq_true] at this
   refine this.imp id fun h => ?_
   split at h
   ·rename_i o' ho'; exact ⟨o', ho', h⟩
   ·cases h
  ·cases h4
theorem ordOk_nodup {bs : List Nat} : ∀ {rest done : List Nat}, ordOk ops bs rest done = true → rest.Nodup ∧ ∀ k ∈ rest, k ∉ done ∧ k < ops.length
 | [], _, _ => ⟨List.nodup_nil, fun _ h => by cases h⟩
 | i :: rest, done, h => by
  obtain ⟨h1, h2, -, -, h5⟩ := ordOk_cons h
  obtain ⟨g1, g2⟩ := ordOk_nodup h5
  refine ⟨List.nodup_cons.2 ⟨fun hi => (g2 i hi).1 List.mem_cons_self, g1⟩, fun k hk => ?_⟩
  rcases List.mem_cons.1 hk with rfl | hk
  ·exact ⟨h1, h2⟩
  ·exact ⟨fun hh => (g2 k hk).1 (List.mem_cons_of_mem _ hh), (g2 k hk).2⟩
theorem ordOk_mem {bs : List Nat} : ∀ {rest done : List Nat}, ordOk ops bs rest done = true → ∀ i, i < ops.length → i ∈ rest ∨ i ∈ done
 | [], done, h, i, hi => by
  simp only [ordOk] at h
  have := (List.all_eq_true.1 h) i (List.mem_range.2 hi)
  exact .inr (by simpa using this)
 | x :: rest, done, h, i, hi => by
  obtain ⟨-, -, -, -, h5⟩ := ordOk_cons h
  rcases ordOk_mem h5 i hi with hh | hh
  ·exact .inl (List.mem_cons_of_mem _ hh)
  ·rcases List.mem_cons.1 hh with rfl | hh
   ·exact .inl List.mem_cons_self
   ·exact .inr hh
theorem ordOk_congr {bs : List Nat} : ∀ {rest d1 d2 : List Nat}, (∀ x, x ∈ d1 ↔ x ∈ d2) → ordOk ops bs rest d1 = true → ordOk ops bs rest d2 = true
 | [], d1, d2, hd, h => by
  simp only [ordOk] at h ⊢
  rw [List.all_eq_true] at h ⊢
  intro j hj
  have := h j hj
  simp only [List.contains_eq_mem, decide_eq_true_eq] at this ⊢
  exact (hd j).1 this
 | i :: rest, d1, d2, hd, h => by
  simp only [ordOk, Bool.and_eq_true, Bool.not_eq_true', decide_eq_true_eq] at h ⊢
  obtain ⟨⟨⟨⟨h1, h2⟩, h3⟩, h4⟩, h5⟩ := h
  refine ⟨⟨⟨⟨?_, h2⟩, ?_⟩, h4⟩, ordOk_congr (fun x => by simp only [List.mem_cons, hd]) h5⟩
  ·rw [List.contains_eq_mem, decide_eq_false_iff_not] at h1 ⊢; exact fun hh => h1 ((hd i).2 hh)
  ·rw [List.all_eq_true] at h3 ⊢
   intro j hj
   have := h3 j hj
   simp only [Bool.or_eq_true, Bool.not_eq_true', List.contains_eq_mem, decide_eq_true_eq] at this ⊢
   exact this.imp id (hd j).1
theorem ordOk_out {bs : List Nat} {i : Nat} {B : List Nat} : ∀ {A done : List Nat}, ordOk ops bs (A ++ i :: B) done = true → ordOk ops bs (A ++ B) (i :: done) = true
 | [], done, h => (ordOk_cons h).2.2.2.2
 | k :: A, done, h => by
  have hn := ordOk_nodup h
  have hki : k ≠ i := fun e => (List.nodup_cons.1 hn.1).1 (by rw [e]; simp)
  have h0 := h
  simp only [List.cons_append, ordOk, Bool.and_eq_true, Bool.not_eq_true', decide_eq_true_eq] at h ⊢
  obtain ⟨⟨⟨⟨h1, h2⟩, h3⟩, h4⟩, h5⟩ := h
  refine ⟨⟨⟨⟨?_, h2⟩, ?_⟩, ?_⟩, ?_⟩
  ·rw [List.contains_eq_mem, decide_eq_false_iff_not] at h1 ⊢
   exact fun hh => (List.mem_cons.1 hh).elim hki h1
  ·rw [List.all_eq_true] at h3 ⊢
   intro j hj
   have := h3 j hj
   simp only [Bool.or_eq_true, Bool.not_eq_true', List.contains_eq_mem, decide_eq_true_eq, List.mem_cons] at this ⊢
   exact this.imp id .inr
  ·split at h4
   ·rename_i o ho
    simp only [Bool.or_eq_true, List.all_eq_true] at h4 ⊢
    exact h4.imp id fun h x hx => h x (by rcases List.mem_append.1 hx with hx | hx <;> simp [hx])
   ·cases h4
  ·exact ordOk_congr (fun x => by simp only [List.mem_cons]; exact ⟨fun h => by rcases h with h | h | h <;> simp [h], fun h => by rcases h with h | h | h <;> simp [h]⟩) (ordOk_out h5)
theorem ordOps_cons {i : Nat} {rest : List Nat} {o : AOper} (ho : ops[i]? = some o) : ordOps ops (i :: rest) = (i, o) :: ordOps ops rest := by simp only [ordOps, ho]
theorem ordOps_append {A B : List Nat} (h : ∀ k ∈ A, k < ops.length) : ordOps ops (A ++ B) = ordOps ops A ++ ordOps ops B := by
 induction A with
 | nil => rfl
 | cons k A ih =>
  have hk := h k List.mem_cons_self
  have ho : ops[k]? = some ops[k] := List.getElem?_eq_getElem hk
  rw [List.cons_append, ordOps_cons ho, ordOps_cons ho, ih (fun x hx => h x (List.mem_cons_of_mem _ hx))]
  rfl
theorem ordOps_mem {A : List Nat} {p : Nat × AOper} (h : p ∈ ordOps ops A) : p.1 ∈ A ∧ ops[p.1]? = some p.2 := by
 induction A with
 | nil => cases h
 | cons k A ih =>
  simp only [ordOps] at h
  split at h
  ·rename_i o ho
   rcases List.mem_cons.1 h with rfl | h
   ·exact ⟨List.mem_cons_self, ho⟩
   ·exact ⟨List.mem_cons_of_mem _ (ih h).1, (ih h).2⟩
  ·cases h
theorem Inv.adv (hops : opersOk P R ops R.toList = true) {listed : Array Bool} {D : List Ent} {r : Nat} {rest : List Nat} {log : PLog} {s : St} {σ : Sig} {a : Act} {w : World} (h : Inv P ops aft n0 T0 B σ0 H0 w0 K listed D (r :: rest) log s σ a w)
 {o : AOper} (ho : ops[r]? = some o) (hq : o.op.quiet = true) : ∃ v log' s', Inv P ops aft n0 T0 B σ0 H0 w0 K listed (⟨r, o.dst, v⟩ :: D) rest log' s' σ a w := by
 obtain ⟨o1, o2, o3, -, o5⟩ := ordOk_cons h.ord
 have hLr : Lof listed r = false := by
  cases hL : Lof listed r with
  | false => rfl
  | true => exact absurd (h.inD r o2 hL) o1
 -- what is the same whatever it yields
 have fin : ∀ (v : AVal) (log' : PLog), (∀ l ∈ log, l ∈ log') → LogSt log' → (∃ u, VR σ s.H v u) → xDrawn P n0 (preOf (befs aft [])) (ordOps ops rest) log' K ⟨setDst s.T o.dst v, s.H⟩ → Pend ops T0 log' s.H ⟨r, o.dst, v⟩ D →
  ∃ v log' s', Inv P ops aft n0 T0 B σ0 H0 w0 K listed (⟨r, o.dst, v⟩ :: D) rest log' s' σ a w := by
  intro v log' hsub hst hu hw hp
  refine ⟨v, log', ⟨setDst s.T o.dst v, s.H⟩, ⟨h.size, fun i hi hL => List.mem_cons_of_mem _ (h.inD i hi hL), ⟨o1, o2, o3, ⟨o, ho, rfl⟩, h.ok⟩, o5, hw, fun t => ?_, by rw [setDst_length]; exact h.len, ⟨.inr hp, ?_⟩, h.tlen, fun t u hu => ?_, h.down, h.rel, h.ext, h.below, h.defers, hst,
   fun i o' j b hi hb hn => h.ghosts i o' j b hi hb (fun hh => hn (List.mem_cons_of_mem _ hh)), ?_, h.base⟩⟩
  ·simp only [look, true_and, setDst_getD, h.len, h.eager]
  ·refine pendD_mono h.pend (fun e _ hL => hL) (fun e _ _ D2 hpe => ?_)
   obtain ⟨Ti, o', q1, q2, q3⟩ := hpe
   exact ⟨Ti, o', q1, q2, q3.imp (fun ⟨a1, a2, a3, a4⟩ => ⟨a1, a2, a3, a4.imp id fun ⟨p, a4, a5⟩ => ⟨p, hsub _ a4, a5⟩⟩) id⟩
  ·have := h.conc t u hu
   simp only [look, hLr, Bool.false_eq_true, false_and, if_false]
   exact this
  ·obtain ⟨vs, hvs⟩ := h.real
   obtain ⟨u, hu⟩ := hu
   cases hd : o.dst with
   | none => exact ⟨vs, hvs⟩
   | some d => exact ⟨vs.set d u, hvs.set d hu⟩
 have hw := h.walk
 rw [ordOps_cons ho] at hw
 have hnb : ∀ j b, o.op ≠ .born j b := fun j b e => by rw [e] at hq; cases hq
 have run : actD P n0 (preOf (befs aft []) r) r o log (fun log' s' => xDrawn P n0 (preOf (befs aft [])) (ordOps ops rest) log' K s') s → (∀ d b, o.guard = some (d, b) → gof (s.T.getD d .top) = some (some b)) →
  ∃ v log' s', Inv P ops aft n0 T0 B σ0 H0 w0 K listed (⟨r, o.dst, v⟩ :: D) rest log' s' σ a w := by
  intro hw hg
  rw [actD_nb hnb, if_pos hq] at hw
  split at hw
  case h_2 => exact hw.elim
  rename_i v H' hst
  have := quiet_heap hq hst
  subst this
  refine fin v _ (fun l hl => ?_) ?_ ?_ hw ⟨s.T, o, ho, h.eager, .inl ⟨hq, hg, hst, ?_⟩⟩
  ·split
   ·exact hl
   ·exact List.mem_cons_of_mem _ hl
  ·split
   ·exact h.logst
   ·exact h.logst.step r s.T o.op v
  rotate_left
  ·by_cases hpu : o.op.pure = true
   ·exact .inl hpu
   ·rw [if_neg hpu]
    exact .inr ⟨_, List.mem_cons_self, fun H1 h1 => h1⟩
  -- it is real
  obtain ⟨vs, hvs⟩ := h.real
  have hrl : r < R.toList.length := by rw [← opersOk_length hops]; exact o2
  have hok := opersOk_get hops ho (List.getElem?_eq_getElem hrl)
  simp only [operOk, Bool.and_eq_true, Bool.or_eq_true] at hok
  have hop : okOp P o.op (R.toList[r]).op = true := by
   have := hok.2
   rw [quiet_plain hq] at this
   rcases this with hop | ⟨hop, -⟩
   ·exact hop
   ·exfalso
    unfold callOk at hop
    split at hop
    ·rename_i hao _; rw [hao] at hq; cases hq
    ·rename_i hao _; rw [hao] at hq; cases hq
    ·cases hop
  obtain ⟨σ1, u, w1, -, -, hv, he, -⟩ := step_sound (a := { tmps := vs.toArray, defers := [] }) hop hst h.rel (by simpa using hvs)
  exact ⟨u, hv.grow he.back⟩
 show ∃ v log' s', _
 have hw' : stepD P n0 (preOf (befs aft []) r) r o log (fun log' s' => xDrawn P n0 (preOf (befs aft [])) (ordOps ops rest) log' K s') s := hw
 unfold stepD at hw'
 split at hw'
 ·rename_i hg
  exact run hw' (fun d b hh => by rw [hg] at hh; cases hh)
 ·rename_i d b hg
  split at hw'
  case h_2 => exact hw'.elim
  rename_i g hgv
  simp only [aget] at hgv
  obtain ⟨w1, w2⟩ := hw'
  by_cases hgb : g = some b
  ·have := w1 hgb
   exact run this (fun d' b' hh => by rw [hg] at hh; injection hh with hh; injection hh with e1 e2; subst e1; subst e2; rw [hgv, hgb])
  ·exact fin skipV log (fun l hl => hl) h.logst ⟨undef, VR_skip⟩ (w2 hgb) ⟨s.T, o, ho, h.eager, .inr ⟨d, b, g, hg, hgv, hgb, rfl⟩⟩
theorem Inv.list {listed : Array Bool} {D : List Ent} {rest : List Nat} {log : PLog} {s : St} {σ σ' : Sig} {a a' : Act} {w w' : World} (h : Inv P ops aft n0 T0 B σ0 H0 w0 K listed D rest log s σ a w)
 {i : Nat} {es : List Nat} (hi : aft[i]? = some es) (hil : i < ops.length) (hr : ∀ e ∈ es, Lof listed e = true) {D1 D2 : List Ent} {e : Ent} (hD : D = D1 ++ e :: D2) (he : e.idx = i)
 (later : ∀ t, e.dst = some t → ∀ f ∈ D1, f.dst = some t → Lof listed f.idx = false)
 (hH : Holds B σ s.H w ⟨setDst ((List.range T0.length).map (look T0 D (Lof listed))) e.dst e.v, s.H⟩ σ' a' w') : Inv P ops aft n0 T0 B σ0 H0 w0 K (listed.setIfInBounds i true) D rest log s σ' a' w' := by
 have hL' : ∀ j, Lof (listed.setIfInBounds i true) j = (decide (j = i) || Lof listed j) := by
  intro j
  unfold Lof
  by_cases hj : j = i
  ·subst hj
   rw [Array.getD_eq_getD_getElem?, Array.getElem?_setIfInBounds_self]
   split <;> simp
  ·rw [Array.getD_eq_getD_getElem?, Array.getElem?_setIfInBounds_ne (Ne.symm hj), ← Array.getD_eq_getD_getElem?]
   simp [hj]
 have hnin : ∀ f ∈ D1, f.idx ≠ i := by
  intro f hf heq
  have hok := h.ok
  rw [hD] at hok
  exact okD_apart hok hf (by rw [heq, ← he]; simp [idxs])
 have hnin2 : ∀ f ∈ D2, f.idx ≠ i := by
  intro f hf heq
  have hok := h.ok
  rw [hD] at hok
  have := (okD_tail hok).1
  exact this (by rw [he, ← heq]; exact List.mem_map_of_mem hf)
 refine ⟨by simpa using h.size, fun j hj hL => ?_, h.ok, h.ord, h.walk, h.eager, h.len, pendD_mono h.pend (fun f _ hf => by rw [hL', hf]; simp) (fun f _ _ D2 hp => hp), ?_, fun t u hu => ?_, fun j es' hj hL e' he' => ?_, hH.rel, h.ext.trans hH.ext, h.below.trans hH.below, hH.defers, h.logst, h.ghosts, (let ⟨vs, hvs⟩ := h.real; ⟨vs, hvs.ext hH.ext⟩), h.base⟩
 ·rw [hL', Bool.or_eq_true, decide_eq_true_eq] at hL
  rcases hL with rfl | hL
  ·rw [hD, ← he]; simp [idxs]
  ·exact h.inD j hj hL
 ·have := hH.tmps.length
  simp only [setDst_length, List.length_map, List.length_range] at this
  rw [Array.length_toList] at this
  exact this.symm
 ·have hlt : t < T0.length := by
   have := hH.tmps.length
   simp only [setDst_length, List.length_map, List.length_range] at this
   have h2 := (Array.getElem?_eq_some_iff.1 hu).1
   have h3 : a'.tmps.toList.length = a'.tmps.size := rfl
   omega
  have key : look T0 D (Lof (listed.setIfInBounds i true)) t = (setDst ((List.range T0.length).map (look T0 D (Lof listed))) e.dst e.v).getD t .top := by
   rw [setDst_getD, TL_getD]
   simp only [List.length_map, List.length_range]
   by_cases hd : e.dst = some t
   ·rw [if_pos ⟨hd, hlt⟩, hD, look_skip]
    ·simp only [look]
     rw [if_pos ⟨by rw [hL', he]; simp, hd, hlt⟩]
    ·intro f hf hfd
     rw [hL', later t hd f hf hfd]
     simp [hnin f hf]
   ·rw [if_neg (fun hh => hd hh.1)]
    refine look_congr fun f hf hfd => ?_
    rw [hL']
    have hne : f.idx ≠ i := by
     rw [hD] at hf
     rcases List.mem_append.1 hf with hf | hf
     ·exact hnin f hf
     ·rcases List.mem_cons.1 hf with rfl | hf
      ·exact absurd hfd hd
      ·exact hnin2 f hf
    simp [hne]
  rw [key]
  have hl2 : t < (setDst ((List.range T0.length).map (look T0 D (Lof listed))) e.dst e.v).length := by simp only [setDst_length, List.length_map, List.length_range]; exact hlt
  obtain ⟨u', hu', hv⟩ := hH.tmps.get (i := t) (List.getElem?_eq_getElem hl2)
  rw [Array.getElem?_toList, hu] at hu'
  injection hu' with hu'; subst hu'
  simp only [List.getD, List.getElem?_eq_getElem hl2, Option.getD_some]
  exact hv
 ·rw [hL', Bool.or_eq_true, decide_eq_true_eq] at hL
  rw [hL']
  rcases hL with rfl | hL
  ·rw [hi] at hj; injection hj with hj; subst hj
   rw [hr e' he']; simp
  ·rw [h.down j es' hj hL e' he']; simp
theorem xOne_quiet {o : AOper} {s : St} {v : AVal} {K : St → Prop} (hq : o.op.quiet = true) (hs : aStep s.T s.H o.op = some (v, s.H)) (hK : K ⟨setDst s.T o.dst v, s.H⟩) : xOne P o K s := by
 unfold xOne
 split
 ·rename_i hh; rw [hh] at hq; cases hq
 ·rename_i hh; rw [hh] at hq; cases hq
 ·rw [hs]; exact hK
theorem wanted_of {o : AOper} {oR : Oper} {T : List AVal} {σ : Sig} {H : Heap} {a : Act} (hg : guardOk R o.guard oR.guard = true) (hT : VRs σ H T a.tmps.toList) : (o.guard = none → Region.wanted oR (yielded R a.tmps) = true) ∧
 (∀ d b g, o.guard = some (d, b) → gof (T.getD d .top) = some g → Region.wanted oR (yielded R a.tmps) = (g == some b)) := by
 unfold guardOk at hg
 split at hg
 ·rename_i g1 g2
  exact ⟨fun _ => by simp [Region.wanted, g2], fun d b g hh _ => by rw [g1] at hh; simp at hh⟩
 ·rename_i d b j b' g1 g2
  simp only [Bool.and_eq_true, beq_iff_eq] at hg
  obtain ⟨rfl, hj⟩ := hg
  refine ⟨(fun hh => by rw [g1] at hh; simp at hh), fun d' b' g hh hgv => ?_⟩
  rw [g1] at hh; injection hh with hh; injection hh with e1 e2; subst e1; subst e2
  simp only [Region.wanted, g2, yielded_gof hj hT hgv]
 ·cases hg
theorem Inv.exec (hops : opersOk P R ops R.toList = true) (hp : pairsOk ops (befs aft []) = true) (hb : backOk aft 0 = true) {listed : Array Bool} {D : List Ent} {rest : List Nat} {log : PLog} {s : St} {σ : Sig} {a : Act} {w : World}
 (h : Inv P ops aft n0 T0 B σ0 H0 w0 K listed D rest log s σ a w) {i : Nat} {es : List Nat} {oR : Oper} (hi : aft[i]? = some es) (hoR : R[i]? = some oR) (hL : Lof listed i = false) (hr : ∀ e ∈ es, Lof listed e = true) (hin : i ∈ idxs D)
 {K' : Act → World → Prop} (hK' : ∀ σ' a' w', Inv P ops aft n0 T0 B σ0 H0 w0 K (listed.setIfInBounds i true) D rest log s σ' a' w' → K' a' w') : wpOp P R Q i K' a w := by
 obtain ⟨e, heD, he⟩ := List.mem_map.1 hin
 obtain ⟨D1, D2, hD, q1, -⟩ := okD_split h.ok heD
 obtain ⟨-, hil, -, ⟨o, ho, hod⟩, -⟩ := q1
 have hpd := h.pend
 rw [hD] at hpd
 have hpend := (pendD_get hpd).resolve_left (by rw [he, hL]; simp)
 obtain ⟨Ti, o', ho', hTi, hcase⟩ := hpend
 rw [ho] at ho'; injection ho' with ho'; subst ho'
 rw [he] at ho hil
 have hok : operOk P R o oR = true := opersOk_get hops ho (by rw [Array.getElem?_toList]; exact hoR)
 have hvrs := h.vrs
 have hlk : ∀ t, t ∈ o.looks ∨ o.dst = some t → ((List.range T0.length).map (look T0 D (Lof listed))).getD t .top = Ti.getD t .top ∧ ∀ f ∈ D1, f.dst = some t → Lof listed f.idx = false := by
  intro t ht
  obtain ⟨g1, g2⟩ := (h.looks hp hb hi ho hL hr (D1 := D1) (D2 := D2) ht).1 e hD he
  rw [TL_getD, g1, hTi]
  exact ⟨rfl, g2⟩
 have hH : Holds B σ s.H w ⟨(List.range T0.length).map (look T0 D (Lof listed)), s.H⟩ σ a w := ⟨h.rel, hvrs, Ext.refl _ _, Kept.refl _ _, h.defers⟩
 have later : ∀ t, e.dst = some t → ∀ f ∈ D1, f.dst = some t → Lof listed f.idx = false := fun t ht => (hlk t (.inr (by rw [hod]; exact ht))).2
 have hg : guardOk R o.guard oR.guard = true := by simp only [operOk, Bool.and_eq_true] at hok; exact hok.1.2
 have hdst : o.dst = oR.dst := by simp only [operOk, Bool.and_eq_true, beq_iff_eq] at hok; exact hok.1.1
 obtain ⟨wa, wb⟩ := wanted_of (oR := oR) hg hvrs
 unfold wpOp
 simp only [hoR]
 rcases hcase with ⟨hq, hgd, hst, -⟩ | ⟨d, b, g, hgd, hgv, hne, hev⟩
 ·have hw : Region.wanted oR (yielded R a.tmps) = true := by
   cases hgo : o.guard with
   | none => exact wa hgo
   | some p =>
    obtain ⟨d, b⟩ := p
    have := (hlk d (.inl (by simp [AOper.looks, hgo]))).1
    rw [wb d b b hgo (by rw [this]; exact hgd d b hgo)]; simp
  rw [if_pos hw]
  have hag : Agree ((List.range T0.length).map (look T0 D (Lof listed))) Ti o.op.names := fun t ht => (hlk t (.inl (by simp [AOper.looks, ht]))).1
  refine .inl (wpOne_sound hok (quiet_plain hq) (K := fun s'' => s'' = ⟨setDst ((List.range T0.length).map (look T0 D (Lof listed))) o.dst e.v, s.H⟩) (xOne_quiet hq (by show aStep _ s.H o.op = _; rw [aStep_congr hag]; exact hst) rfl) hH ?_)
  rintro s'' σ' a' w' rfl hh
  refine hK' σ' a' w' (h.list hi hil hr hD he later ?_)
  rw [← hod]; exact hh
 ·have hw : Region.wanted oR (yielded R a.tmps) = false := by
   have := (hlk d (.inl (by simp [AOper.looks, hgd]))).1
   rw [wb d b g hgd (by rw [this]; exact hgv)]; simpa using hne
  rw [if_neg (by rw [hw]; simp)]
  refine hK' σ _ w (h.list hi hil hr hD he later ?_)
  rw [← hdst, ← hod, hev]
  exact hH.put o.dst h.rel VR_skip (Ext.refl _ _) (Kept.refl _ _)
theorem xOne_congr {o : AOper} {s : St} {T : List AVal} {K : St → Prop} (ha : Agree T s.T o.op.names) (h : xOne P o K s) : xOne P o (fun s'' => ∃ v H', s'' = ⟨setDst T o.dst v, H'⟩ ∧ K ⟨setDst s.T o.dst v, H'⟩) ⟨T, s.H⟩ := by
 unfold xOne at h ⊢
 split at h
 ·rename_i f args hop
  rw [hop] at ha
  simp only [Agree.args ha]
  exact h.mono fun v H' hk => ⟨v, H', rfl, hk⟩
 ·rename_i y args hop
  rw [hop] at ha
  simp only [ha.left.arg, Agree.args ha.right]
  split at h
  case h_2 => exact h.elim
  rename_i f cap hy
  try simp only [hy]
  exact ⟨h.1, h.2.mono fun v H' hk => ⟨v, H', rfl, hk⟩⟩
 ·rw [aStep_congr ha]
  split at h
  ·rename_i v H' hst
   rw [hst]
   exact ⟨v, H', rfl, h⟩
  ·exact h.elim
theorem Lof_set (listed : Array Bool) (i j : Nat) : Lof (listed.setIfInBounds i true) j = (decide (j = i) || Lof listed j) := by
 unfold Lof
 by_cases hj : j = i
 ·subst hj
  rw [Array.getD_eq_getD_getElem?, Array.getElem?_setIfInBounds_self]
  split <;> simp
 ·rw [Array.getD_eq_getD_getElem?, Array.getElem?_setIfInBounds_ne (Ne.symm hj), ← Array.getD_eq_getD_getElem?]
  simp [hj]
theorem Inv.both {listed : Array Bool} {D : List Ent} {i : Nat} {rest rest' : List Nat} {log : PLog} {s : St} {σ : Sig} {a : Act} {w : World}
 (h : Inv P ops aft n0 T0 B σ0 H0 w0 K listed D rest log s σ a w) {es : List Nat} {o : AOper} (hi : aft[i]? = some es) (ho : ops[i]? = some o) (hr : ∀ e ∈ es, Lof listed e = true)
 (hni : i ∉ idxs D) (hpr : ∀ j, j < ops.length → preOf (befs aft []) i j = true → j ∈ idxs D) (hord : ordOk ops (befs aft []) rest' (i :: idxs D) = true)
 {v : AVal} {H' : Heap} {σ' : Sig} {a' : Act} {w' : World} (hw : xDrawn P n0 (preOf (befs aft [])) (ordOps ops rest') log K ⟨setDst s.T o.dst v, H'⟩)
 (hpd : ∀ e ∈ D, Lof listed e.idx = false → ∀ D2, Pend ops T0 log s.H e D2 → Pend ops T0 log H' e D2)
 (hrel : RelH B σ' H' w') (htm : VRs σ' H' (setDst ((List.range T0.length).map (look T0 D (Lof listed))) o.dst v) a'.tmps.toList) (hgrow : Grow σ s.H σ' H') (hext : Ext σ0 H0 σ' H') (hbel : Kept B w0 w') (hdef : a'.defers = [])
 (hgh : ∀ (i' : Nat) (o' : AOper) (j : Nat) (b : ABirth), ops[i']? = some o' → o'.op = .born j b → i' ∉ i :: idxs D → H'[n0 + j]? = some .ghost) :
 Inv P ops aft n0 T0 B σ0 H0 w0 K (listed.setIfInBounds i true) (⟨i, o.dst, v⟩ :: D) rest' log ⟨setDst s.T o.dst v, H'⟩ σ' a' w' := by
 have hL' := Lof_set listed i
 have hlen := htm.length
 simp only [setDst_length, List.length_map, List.length_range] at hlen
 have hil : i < ops.length := (List.getElem?_eq_some_iff.1 ho).1
 refine ⟨by simpa using h.size, fun j hj hLj => ?_, ⟨hni, hil, hpr, ⟨o, ho, rfl⟩, h.ok⟩, hord, hw, fun t => ?_, by rw [setDst_length]; exact h.len, ⟨.inl (by rw [hL']; simp), ?_⟩, hlen.symm, fun t u hu => ?_, fun j es' hj hLj e' he' => ?_, hrel, hext, hbel, hdef, h.logst, hgh, ?_, h.base⟩
 ·rw [hL', Bool.or_eq_true, decide_eq_true_eq] at hLj
  rcases hLj with rfl | hLj
  ·exact List.mem_cons_self
  ·exact List.mem_cons_of_mem _ (h.inD j hj hLj)
 ·simp only [look, true_and, setDst_getD, h.len, h.eager]
 ·refine pendD_mono h.pend (fun e _ hLe => by rw [hL', hLe]; simp) (fun e he hLe D2 hpe => ?_)
  rw [hL', Bool.or_eq_false_iff] at hLe
  exact hpd e he hLe.2 D2 hpe
 ·have hlt : t < T0.length := by
   have h2 := (Array.getElem?_eq_some_iff.1 hu).1
   have h3 : a'.tmps.toList.length = a'.tmps.size := rfl
   omega
  have key : look T0 (⟨i, o.dst, v⟩ :: D) (Lof (listed.setIfInBounds i true)) t = (setDst ((List.range T0.length).map (look T0 D (Lof listed))) o.dst v).getD t .top := by
   rw [setDst_getD, TL_getD]
   simp only [List.length_map, List.length_range, look]
   rw [hL']
   have : look T0 D (Lof (listed.setIfInBounds i true)) t = look T0 D (Lof listed) t := look_congr fun f hf _ => by
    rw [hL']
    have : f.idx ≠ i := fun heq => hni (by rw [← heq]; exact List.mem_map_of_mem hf)
    simp [this]
   rw [this]
   simp
  rw [key]
  have hl2 : t < (setDst ((List.range T0.length).map (look T0 D (Lof listed))) o.dst v).length := by simp only [setDst_length, List.length_map, List.length_range]; exact hlt
  obtain ⟨u', hu', hv⟩ := htm.get (i := t) (List.getElem?_eq_getElem hl2)
  rw [Array.getElem?_toList, hu] at hu'
  injection hu' with hu'; subst hu'
  simp only [List.getD, List.getElem?_eq_getElem hl2, Option.getD_some]
  exact hv
 ·rw [hL', Bool.or_eq_true, decide_eq_true_eq] at hLj
  rw [hL']
  rcases hLj with rfl | hLj
  ·rw [hi] at hj; injection hj with hj; subst hj
   rw [hr e' he']; simp
  ·rw [h.down j es' hj hLj e' he']; simp
 ·obtain ⟨vs, hvs⟩ := h.real
  have hvs' := hvs.grow hgrow
  cases hd : o.dst with
  | none => exact ⟨vs, hvs'⟩
  | some d =>
   by_cases hdl : d < T0.length
   ·have hl2 : d < (setDst ((List.range T0.length).map (look T0 D (Lof listed))) o.dst v).length := by simp only [setDst_length, List.length_map, List.length_range]; exact hdl
    obtain ⟨u, -, hu⟩ := htm.get (i := d) (List.getElem?_eq_getElem hl2)
    have e : (setDst ((List.range T0.length).map (look T0 D (Lof listed))) o.dst v)[d] = v := by
     simp [setDst, hd]
    rw [e] at hu
    exact ⟨vs.set d u, hvs'.set d hu⟩
   ·have e : setDst s.T (some d) v = s.T := by
     simp only [setDst]
     exact List.set_eq_of_length_le (by rw [h.len]; omega)
    rw [e]
    exact ⟨vs, hvs'⟩
theorem Inv.loud (hops : opersOk P R ops R.toList = true) (hp : pairsOk ops (befs aft []) = true) (hb : backOk aft 0 = true) {listed : Array Bool} {D : List Ent} {i : Nat} {rest : List Nat} {log : PLog} {s : St} {σ : Sig} {a : Act} {w : World}
 (h : Inv P ops aft n0 T0 B σ0 H0 w0 K listed D (i :: rest) log s σ a w) {es : List Nat} {oR : Oper} {o : AOper} (hi : aft[i]? = some es) (hoR : R[i]? = some oR) (ho : ops[i]? = some o) (hq : o.op.quiet = false) (hnb : ∀ j b, o.op ≠ .born j b) (hL : Lof listed i = false) (hr : ∀ e ∈ es, Lof listed e = true)
 {K' : Act → World → Prop} (hK' : ∀ v s' σ' a' w', Inv P ops aft n0 T0 B σ0 H0 w0 K (listed.setIfInBounds i true) (⟨i, o.dst, v⟩ :: D) rest log s' σ' a' w' → K' a' w') : wpOp P R Q i K' a w := by
 obtain ⟨o1, o2, o3, -, o5⟩ := ordOk_cons h.ord
 have hok : operOk P R o oR = true := opersOk_get hops ho (by rw [Array.getElem?_toList]; exact hoR)
 have hvrs := h.vrs
 have hpre := pre_listed hb (fun i => Lof listed i = true) (fun i es h1 h2 => h.down i es h1 h2) i es hi hr
 have hlk : ∀ t, t ∈ o.looks ∨ o.dst = some t → ((List.range T0.length).map (look T0 D (Lof listed))).getD t .top = s.T.getD t .top := by
  intro t ht
  rw [TL_getD, (h.looks hp hb hi ho hL hr (D1 := []) (D2 := []) ht).2 o1, h.eager]
 have hH : Holds B σ s.H w ⟨(List.range T0.length).map (look T0 D (Lof listed)), s.H⟩ σ a w := ⟨h.rel, hvrs, Ext.refl _ _, Kept.refl _ _, h.defers⟩
 have hg : guardOk R o.guard oR.guard = true := by simp only [operOk, Bool.and_eq_true] at hok; exact hok.1.2
 have hdst : o.dst = oR.dst := by simp only [operOk, Bool.and_eq_true, beq_iff_eq] at hok; exact hok.1.1
 obtain ⟨wa, wb⟩ := wanted_of (oR := oR) hg hvrs
 have fin : ∀ (v : AVal) (H' : Heap) σ' a' w', xDrawn P n0 (preOf (befs aft [])) (ordOps ops rest) log K ⟨setDst s.T o.dst v, H'⟩ → (∀ e ∈ D, Lof listed e.idx = false → ∀ D2, Pend ops T0 log s.H e D2 → Pend ops T0 log H' e D2) → (∀ k : Nat, s.H[k]? = some .ghost → H'[k]? = some .ghost) →
  Holds B σ s.H w ⟨setDst ((List.range T0.length).map (look T0 D (Lof listed))) o.dst v, H'⟩ σ' a' w' → K' a' w' := by
  intro v H' σ' a' w' hw hpd hgh hh
  exact hK' v _ σ' a' w' (h.both hi ho hr o1 o3 o5 hw hpd hh.rel hh.tmps hh.ext.toGrow (h.ext.trans hh.ext) (h.below.trans hh.below) hh.defers
   (fun i' o' j b hi' hb' hn => hgh _ (h.ghosts i' o' j b hi' hb' (fun hh => hn (List.mem_cons_of_mem _ hh)))))
 have run : xOne P o (fun s' => chkS (preOf (befs aft []) i) s'.H log ∧ xDrawn P n0 (preOf (befs aft [])) (ordOps ops rest) log K s') s → oR.wp P a w K' Q := by
  intro hx
  have hag : Agree ((List.range T0.length).map (look T0 D (Lof listed))) s.T o.op.names := fun t ht => hlk t (.inl (by simp [AOper.looks, ht]))
  refine wpOne_sound hok (plain_nb hnb) (xOne_congr hag (xOne_gh hx)) hH ?_
  rintro s'' σ' a' w' ⟨v, H', rfl, ⟨hchk, hwalk⟩, hgh⟩ hh
  refine fin v H' σ' a' w' hwalk (fun e he hLe D2 hpe => ?_) hgh hh
  obtain ⟨Ti, o', q1, q2, q3⟩ := hpe
  refine ⟨Ti, o', q1, q2, q3.imp (fun ⟨a1, a2, a3, a4⟩ => ⟨a1, a2, ?_, a4⟩) id⟩
  rcases a4 with hpu | ⟨p, a4, a5⟩
  ·exact pure_step hpu a3 _
  ·rcases chkS_iff.1 hchk _ a4 with hc | hc
   ·exact a5 _ hc
   ·exfalso
    have := hpre e.idx hc
    rw [hLe] at this; cases this
 have hw := h.walk
 rw [ordOps_cons ho] at hw
 have hw' : stepD P n0 (preOf (befs aft []) i) i o log (fun log' s' => xDrawn P n0 (preOf (befs aft [])) (ordOps ops rest) log' K s') s := hw
 unfold wpOp
 simp only [hoR]
 unfold stepD at hw'
 split at hw'
 ·rename_i hgd
  rw [actD_nb hnb, if_neg (by rw [hq]; simp)] at hw'
  rw [if_pos (wa hgd)]
  exact .inl (run hw')
 ·rename_i d b hgd
  split at hw'
  case h_2 => exact hw'.elim
  rename_i g hgv
  simp only [aget] at hgv
  obtain ⟨w1, w2⟩ := hw'
  have hwt := wb d b g hgd (by rw [hlk d (.inl (by simp [AOper.looks, hgd]))]; exact hgv)
  by_cases hgb : g = some b
  ·have := w1 hgb
   rw [actD_nb hnb, if_neg (by rw [hq]; simp)] at this
   rw [if_pos (by rw [hwt]; simpa using hgb)]
   exact .inl (run this)
  ·rw [if_neg (by rw [hwt]; simpa using hgb)]
   refine fin skipV s.H σ _ w (w2 hgb) (fun e he hLe D2 hpe => hpe) (fun k hk => hk) ?_
   rw [← hdst]
   exact hH.put o.dst h.rel VR_skip (Ext.refl _ _) (Kept.refl _ _)
theorem Inv.ahead (hops : opersOk P R ops R.toList = true) (hp : pairsOk ops (befs aft []) = true) {nb : Nat} (hbn : bornsOk nb ops [] = true) (hcst : (ops.all fun o => o.op.cst) = true) {listed : Array Bool} {D : List Ent} {i : Nat} {Al Bl : List Nat} {log : PLog} {s : St} {σ : Sig} {a : Act} {w : World}
 (h : Inv P ops aft n0 T0 B σ0 H0 w0 K listed D (Al ++ i :: Bl) log s σ a w) {o : AOper} (ho : ops[i]? = some o) (hm : o.op.mov = true) (hpr : ∀ j, j < ops.length → preOf (befs aft []) i j = true → j ∈ idxs D) :
 ∃ v x, eff n0 o s.T = some (v, x) ∧ xDrawn P n0 (preOf (befs aft [])) (ordOps ops (Al ++ Bl)) log K ⟨setDst s.T o.dst v, fillX x s.H⟩ := by
 obtain ⟨hnd, hmem⟩ := ordOk_nodup h.ord
 have hAl : ∀ k ∈ Al, k < ops.length := fun k hk => (hmem k (by simp [hk])).2
 have hil : i < ops.length := (hmem i (by simp)).2
 have hw := h.walk
 rw [ordOps_append hAl, ordOps_cons ho] at hw
 have hio : i ∉ Al := fun hh => (List.nodup_append.1 hnd).2.2 i hh i (by simp) rfl
 have hall : ∀ {k : Nat} {ok : AOper}, ops[k]? = some ok → ok.op.cst = true := fun hk => List.all_eq_true.1 hcst _ (List.mem_of_getElem? hk)
 obtain ⟨-, hslots⟩ := born_slots hbn
 have slot_ne : ∀ {k k' : Nat} {ok ok' : AOper}, ops[k]? = some ok → ops[k']? = some ok' → k ≠ k' → ∀ m, slotOf n0 ok = some m → slotOf n0 ok' ≠ some m := by
  intro k k' ok ok' hk hk' hne m h1 h2
  unfold slotOf at h1 h2
  split at h1
  ·rename_i j b e1
   split at h2
   ·rename_i j' b' e2
    simp only [Option.some.injEq] at h1 h2
    exact hslots k k' ok ok' j j' b b' hk hk' e1 e2 hne (by omega)
   ·cases h2
  ·cases h1
 -- who stands ahead of it does not meddle
 have notpre : ∀ {L1 L2 : List Nat} {done : List Nat} {k : Nat}, ordOk ops (befs aft []) (L1 ++ k :: L2) done = true → ∀ j ∈ L2, preOf (befs aft []) k j = true → False := by
  intro L1
  induction L1 with
  | nil =>
   intro L2 done k hh j hj hpj
   obtain ⟨-, -, q3, -, q5⟩ := ordOk_cons hh
   have hjl := (ordOk_nodup q5).2 j hj
   exact hjl.1 (List.mem_cons_of_mem _ (q3 j hjl.2 hpj))
  | cons x L1 ih =>
   intro L2 done k hh j hj hpj
   exact ih (ordOk_cons hh).2.2.2.2 j hj hpj
 have indep : ∀ {k : Nat} {ok : AOper}, k ∈ Al → ops[k]? = some ok → Indep ok o := by
  intro k ok hk hok
  have hki : k ≠ i := fun e => hio (e ▸ hk)
  have n1 : preOf (befs aft []) i k ≠ true := fun e => (hmem k (by simp [hk])).1 (hpr k (hAl k hk) e)
  have n2 : preOf (befs aft []) k i ≠ true := by
   obtain ⟨L1, L2, rfl⟩ := List.append_of_mem hk
   intro e
   have := h.ord
   rw [List.append_assoc, List.cons_append] at this
   exact notpre this i (by simp) e
  refine ⟨fun t hd => ⟨fun ht => ?_, fun ht => ?_⟩, fun t hd ht => ?_⟩
  ·exact (pairs_spec hp ho hok (Ne.symm hki) hd (.inl ht)).elim n1 n2
  ·exact (pairs_spec hp ho hok (Ne.symm hki) hd (.inr ht)).elim n1 n2
  ·exact (pairs_spec hp hok ho hki hd (.inl ht)).elim n2 n1
 have hgh : ∀ {k : Nat} {ok : AOper} {j : Nat} {b : ABirth}, k ∈ Al ++ i :: Bl → ops[k]? = some ok → ok.op = .born j b → s.H[n0 + j]? = some .ghost := fun hk hok hb => h.ghosts _ _ _ _ hok hb (hmem _ hk).1
 have hpw : (ordOps ops Al).Pairwise (fun p q => ∀ k, slotOf n0 p.2 = some k → slotOf n0 q.2 ≠ some k) := by
  have : ∀ (L : List Nat), L.Nodup → (ordOps ops L).Pairwise (fun p q => ∀ k, slotOf n0 p.2 = some k → slotOf n0 q.2 ≠ some k) := by
   intro L
   induction L with
   | nil => intro _; simp [ordOps]
   | cons x L ih =>
    intro hn
    rw [List.nodup_cons] at hn
    simp only [ordOps]
    split
    ·rename_i ox hox
     refine List.pairwise_cons.2 ⟨fun q hq m h1 => ?_, ih hn.2⟩
     obtain ⟨q1, q2⟩ := ordOps_mem hq
     exact slot_ne hox q2 (fun e => hn.1 (by rw [e]; exact q1)) m h1
    ·exact List.Pairwise.nil
  exact this Al (List.nodup_append.1 hnd).1
 obtain ⟨vs, hvs⟩ := h.real
 obtain ⟨e, he⟩ := extract (R := R) hm (ordOps ops Al) (fun p hp' => by
  obtain ⟨q1, q2⟩ := ordOps_mem hp'
  have hrl : p.1 < R.toList.length := by rw [← opersOk_length hops]; exact hAl _ q1
  exact ⟨hall q2, indep q1 q2, _, opersOk_get hops q2 (List.getElem?_eq_getElem hrl)⟩) hpw log s ⟨B, σ, w, vs, h.rel, hvs⟩ (fun p hp' j b hb => by
  obtain ⟨q1, q2⟩ := ordOps_mem hp'
  exact hgh (by simp [q1]) q2 hb) hw
 have hfree : Free (slotOf n0 o) s.T s.H := by
  have hk : ∀ k, slotOf n0 o = some k → s.H[k]? = some .ghost := by
   intro k hk
   unfold slotOf at hk
   split at hk
   ·rename_i j b hb
    simp only [Option.some.injEq] at hk; subst hk
    exact hgh (by simp) ho hb
   ·cases hk
  exact ⟨hk, fun k e t => getD_refs (hvs.refs (hk k e)) t, fun k e => h.rel.refs (hk k e)⟩
 have hfr := front hm (ordOps ops Al) (fun p hp' => by
  obtain ⟨q1, q2⟩ := ordOps_mem hp'
  refine ⟨hall q2, indep q1 q2, fun j b hb => ?_⟩
  exact fun e => slot_ne ho q2 (fun e' => hio (by rw [e']; exact q1)) _ e (by simp [slotOf, hb])) log s e h.logst hfree he hw
 have hfr' : stepD P n0 (preOf (befs aft []) i) i o log (fun l' s' => xDrawn P n0 (preOf (befs aft [])) (ordOps ops Al ++ ordOps ops Bl) l' K s') s := hfr
 rw [stepD_mov hm] at hfr'
 obtain ⟨v, x, e1, hc⟩ := hfr'
 exact ⟨v, x, e1, by rw [ordOps_append hAl]; exact hc⟩
theorem Inv.birth (hops : opersOk P R ops R.toList = true) (hp : pairsOk ops (befs aft []) = true) (hb : backOk aft 0 = true) {nb : Nat} (hbn : bornsOk nb ops [] = true) (hcst : (ops.all fun o => o.op.cst) = true) {listed : Array Bool} {D : List Ent} {i : Nat} {Al Bl : List Nat} {log : PLog} {s : St} {σ : Sig} {a : Act} {w : World}
 (h : Inv P ops aft n0 T0 B σ0 H0 w0 K listed D (Al ++ i :: Bl) log s σ a w) {es : List Nat} {oR : Oper} {o : AOper} (hi : aft[i]? = some es) (hoR : R[i]? = some oR) (ho : ops[i]? = some o) {j : Nat} {b : ABirth} (hob : o.op = .born j b) (hL : Lof listed i = false) (hr : ∀ e ∈ es, Lof listed e = true)
 {K' : Act → World → Prop} (hK' : ∀ v s' σ' a' w', Inv P ops aft n0 T0 B σ0 H0 w0 K (listed.setIfInBounds i true) (⟨i, o.dst, v⟩ :: D) (Al ++ Bl) log s' σ' a' w' → K' a' w') : wpOp P R Q i K' a w := by
 have hm : o.op.mov = true := by rw [hob]; rfl
 obtain ⟨hnd, hmem⟩ := ordOk_nodup h.ord
 obtain ⟨hni, hil⟩ := hmem i (by simp)
 have hpre := pre_listed hb (fun i => Lof listed i = true) (fun i es h1 h2 => h.down i es h1 h2) i es hi hr
 have hpr : ∀ j, j < ops.length → preOf (befs aft []) i j = true → j ∈ idxs D := fun j hj hpj => h.inD j hj (hpre j hpj)
 have hord := ordOk_out h.ord
 obtain ⟨v, x, he, hw⟩ := h.ahead hops hp hbn hcst ho hm hpr
 have hok : operOk P R o oR = true := opersOk_get hops ho (by rw [Array.getElem?_toList]; exact hoR)
 have hvrs := h.vrs
 have hlk : ∀ t, t ∈ o.looks ∨ o.dst = some t → ((List.range T0.length).map (look T0 D (Lof listed))).getD t .top = s.T.getD t .top := by
  intro t ht
  rw [TL_getD, (h.looks hp hb hi ho hL hr (D1 := []) (D2 := []) ht).2 hni, h.eager]
 have hH : Holds B σ s.H w ⟨(List.range T0.length).map (look T0 D (Lof listed)), s.H⟩ σ a w := ⟨h.rel, hvrs, Ext.refl _ _, Kept.refl _ _, h.defers⟩
 have hg : guardOk R o.guard oR.guard = true := by simp only [operOk, Bool.and_eq_true] at hok; exact hok.1.2
 have hdst : o.dst = oR.dst := by simp only [operOk, Bool.and_eq_true, beq_iff_eq] at hok; exact hok.1.1
 obtain ⟨wa, wb⟩ := wanted_of (oR := oR) hg hvrs
 have hgk : s.H[n0 + j]? = some .ghost := h.ghosts i o j b ho hob hni
 obtain ⟨-, hslots⟩ := born_slots hbn
 unfold wpOp
 simp only [hoR]
 unfold eff at he
 -- is it wanted?
 have gv : guardVal o s.T = none → False := fun e => by rw [e] at he; cases he
 cases hgv : guardVal o s.T with
 | none => exact (gv hgv).elim
 | some q =>
  rw [hgv] at he
  cases q with
  | false =>
   simp only [Option.some.injEq, Prod.mk.injEq] at he
   obtain ⟨rfl, rfl⟩ := he
   have hwt : Region.wanted oR (yielded R a.tmps) = false := by
    unfold guardVal at hgv
    split at hgv
    ·cases hgv
    ·rename_i d b' hgd
     split at hgv
     ·rename_i g hgg
      simp only [aget] at hgg
      rw [wb d b' g hgd (by rw [hlk d (.inl (by simp [AOper.looks, hgd]))]; exact hgg)]
      simpa using hgv
     ·cases hgv
   rw [if_neg (by rw [hwt]; simp)]
   have hh : Holds B σ s.H w ⟨setDst ((List.range T0.length).map (look T0 D (Lof listed))) o.dst skipV, s.H⟩ σ (a.put oR.dst undef) w := by
    rw [← hdst]; exact hH.put o.dst h.rel VR_skip (Ext.refl _ _) (Kept.refl _ _)
   exact hK' skipV _ σ _ w (h.both hi ho hr hni hpr hord hw (fun e he hLe D2 hpe => hpe) hh.rel hh.tmps hh.ext.toGrow (h.ext.trans hh.ext) (h.below.trans hh.below) hh.defers
    (fun i' o' j' b' hi' hb' hn => h.ghosts i' o' j' b' hi' hb' (fun hh => hn (List.mem_cons_of_mem _ hh))))
  | true =>
   simp only [effA, hob, Option.map_eq_some_iff, Prod.mk.injEq] at he
   obtain ⟨⟨v', y⟩, hbs, rfl, rfl⟩ := he
   have hwt : Region.wanted oR (yielded R a.tmps) = true := by
    unfold guardVal at hgv
    split at hgv
    ·rename_i hgd; exact wa hgd
    ·rename_i d b' hgd
     split at hgv
     ·rename_i g hgg
      simp only [aget] at hgg
      rw [wb d b' g hgd (by rw [hlk d (.inl (by simp [AOper.looks, hgd]))]; exact hgg)]
      simpa using hgv
     ·cases hgv
   rw [if_pos hwt]
   have hag : Agree ((List.range T0.length).map (look T0 D (Lof listed))) s.T (AOp.born j b).names := fun t ht => hlk t (.inl (by rw [AOper.looks, hob]; simp [ht]))
   have hop : okOp P b.toOp oR.op = true := by
    simp only [operOk, Bool.and_eq_true, Bool.or_eq_true] at hok
    have := hok.2
    rw [hob] at this
    rcases this with hop | ⟨hop, -⟩
    ·exact hop
    ·simp [callOk] at hop
   have hc : b.cst = true := by
    have := List.all_eq_true.1 hcst _ (List.mem_of_getElem? ho)
    rw [hob] at this; exact this
   rw [← bornStep_congr hag] at hbs
   obtain ⟨σ1, p, u, w1, hrun, hR1, hv, he1, hk1⟩ := born_real hop hc hgk hbs h.rel hvrs
   have hkl : H0.length ≤ n0 + j := Nat.le_trans h.base (Nat.le_add_right _ _)
   have hnew := born_new hbs
   have hgrow : Grow σ s.H (σ1.upd (n0 + j) p) (s.H.set (n0 + j) y) := he1.toGrow.trans (grow_fill hgk y p)
   have hextf : Ext σ0 H0 (σ1.upd (n0 + j) p) (s.H.set (n0 + j) y) := (h.ext.trans he1).fill hgk hkl hnew p
   have inv : Inv P ops aft n0 T0 B σ0 H0 w0 K (listed.setIfInBounds i true) (⟨i, o.dst, v'⟩ :: D) (Al ++ Bl) log ⟨setDst s.T o.dst v', s.H.set (n0 + j) y⟩ (σ1.upd (n0 + j) p) (a.put o.dst u) w1 := by
    refine h.both hi ho hr hni hpr hord hw (fun e he hLe D2 hpe => ?_) hR1 (VRs_put (hvrs.grow hgrow) o.dst hv) hgrow hextf (h.below.trans hk1) (by rw [put_defers]; exact h.defers) (fun i' o' j' b' hi' hb' hn => ?_)
    ·obtain ⟨Ti, o', q1, q2, q3⟩ := hpe
     exact ⟨Ti, o', q1, q2, q3.imp (fun ⟨a1, a2, a3, a4⟩ => ⟨a1, a2, (aStep_fill hgk a3).1, a4⟩) id⟩
    ·have hne : i' ≠ i := fun e => hn (by rw [e]; exact List.mem_cons_self)
     have := hslots i' i o' o j' j b' b hi' ho hb' hob hne
     rw [List.getElem?_set_ne (by omega)]
     exact h.ghosts i' o' j' b' hi' hb' (fun hh => hn (List.mem_cons_of_mem _ hh))
   have key := hK' v' _ _ _ _ inv
   refine .inl ?_
   unfold Oper.wp
   rw [hdst] at key
   rcases hrun with hrun | ⟨hrun, rfl⟩
   ·rw [hrun]; exact key
   ·rw [hrun]; exact key
theorem Inv.reach (hops : opersOk P R ops R.toList = true) {i : Nat} : ∀ {rest : List Nat} {listed : Array Bool} {D : List Ent} {log : PLog} {s : St} {σ : Sig} {a : Act} {w : World}, Inv P ops aft n0 T0 B σ0 H0 w0 K listed D rest log s σ a w → i < ops.length →
 (∀ j, preOf (befs aft []) i j = true → Lof listed j = true) → (∀ o, ops[i]? = some o → o.op.mov = false) → i ∉ idxs D →
 (∃ D' rest' log' s', Inv P ops aft n0 T0 B σ0 H0 w0 K listed D' rest' log' s' σ a w ∧ i ∈ idxs D') ∨ (∃ D' rest' log' s' o, Inv P ops aft n0 T0 B σ0 H0 w0 K listed D' (i :: rest') log' s' σ a w ∧ ops[i]? = some o ∧ o.op.quiet = false)
 | [], listed, D, log, s, σ, a, w, h, hi, _, _, hni => by
  exfalso
  rcases ordOk_mem h.ord i hi with hh | hh
  ·cases hh
  ·exact hni hh
 | r :: rest, listed, D, log, s, σ, a, w, h, hi, hpre, hmov, hni => by
  obtain ⟨o1, o2, o3, ⟨o, ho, hq⟩, o5⟩ := ordOk_cons h.ord
  by_cases hri : r = i
  ·subst hri
   cases hqq : o.op.quiet with
   | false => exact .inr ⟨D, rest, log, s, o, h, ho, hqq⟩
   | true =>
    obtain ⟨v, log', s', h'⟩ := h.adv hops ho hqq
    exact .inl ⟨_, _, _, _, h', by simp [idxs]⟩
  ·have hin : i ∈ rest := by
    rcases ordOk_mem o5 i hi with hh | hh
    ·exact hh
    ·rcases List.mem_cons.1 hh with hh | hh
     ·exact absurd hh.symm hri
     ·exact absurd hh hni
   rcases hq with hq | hq
   ·obtain ⟨v, log', s', h'⟩ := h.adv hops ho hq
    exact Inv.reach hops h' hi hpre hmov (by simp only [idxs, List.map_cons, List.mem_cons, not_or]; exact ⟨Ne.symm hri, hni⟩)
   ·exfalso
    rcases hq i hin with hq | ⟨o', ho', hm⟩
    ·have := hpre r hq
     exact o1 (h.inD r o2 this)
    ·rw [hmov o' ho'] at hm; cases hm
theorem Inv.pureAhead (hops : opersOk P R ops R.toList = true) (hp : pairsOk ops (befs aft []) = true) {nb : Nat} (hbn : bornsOk nb ops [] = true) (hcst : (ops.all fun o => o.op.cst) = true) {listed : Array Bool} {D : List Ent} {i : Nat} {Al Bl : List Nat} {log : PLog} {s : St} {σ : Sig} {a : Act} {w : World}
 (h : Inv P ops aft n0 T0 B σ0 H0 w0 K listed D (Al ++ i :: Bl) log s σ a w) {o : AOper} (ho : ops[i]? = some o) (hpu : o.op.pure = true) (hpr : ∀ j, j < ops.length → preOf (befs aft []) i j = true → j ∈ idxs D) :
 ∃ D' rest' log' s', Inv P ops aft n0 T0 B σ0 H0 w0 K listed D' rest' log' s' σ a w ∧ i ∈ idxs D' := by
 have hq := pure_quiet hpu
 have hnb : ∀ j b, o.op ≠ .born j b := fun j b e => by rw [e] at hq; cases hq
 have hm : o.op.mov = true := by
  unfold AOp.mov
  split
  ·rename_i k b e; exact absurd e (hnb k b)
  ·exact hpu
 obtain ⟨v, x, he, hw⟩ := h.ahead hops hp hbn hcst ho hm hpr
 obtain ⟨hnd, hmem⟩ := ordOk_nodup h.ord
 obtain ⟨hni, hil⟩ := hmem i (by simp)
 have hord := ordOk_out h.ord
 -- the same, with it at the front
 have h' : Inv P ops aft n0 T0 B σ0 H0 w0 K listed D (i :: (Al ++ Bl)) log s σ a w := by
  refine ⟨h.size, h.inD, h.ok, ?_, ?_, h.eager, h.len, h.pend, h.tlen, h.conc, h.down, h.rel, h.ext, h.below, h.defers, h.logst, h.ghosts, h.real, h.base⟩
  ·simp only [ordOk, Bool.and_eq_true, Bool.not_eq_true', decide_eq_true_eq]
   refine ⟨⟨⟨⟨by rw [List.contains_eq_mem, decide_eq_false_iff_not]; exact hni, hil⟩, ?_⟩, by rw [ho]; simp [hq]⟩, hord⟩
   rw [List.all_eq_true]
   intro j hj
   rw [List.mem_range] at hj
   cases hpj : preOf (befs aft []) i j with
   | false => simp
   | true => simpa using hpr j hj hpj
  ·rw [ordOps_cons ho]
   show stepD P n0 (preOf (befs aft []) i) i o log (fun l' s' => xDrawn P n0 (preOf (befs aft [])) (ordOps ops (Al ++ Bl)) l' K s') s
   rw [stepD_mov hm]
   exact ⟨v, x, he, hw⟩
 obtain ⟨v, log', s', h''⟩ := h'.adv hops ho hq
 exact ⟨_, _, _, _, h'', by simp [idxs]⟩
theorem Inv.any (hops : opersOk P R ops R.toList = true) (haft : aftOk aft R.toList = true) (hal : aft.length = ops.length) (hp : pairsOk ops (befs aft []) = true) (hb : backOk aft 0 = true) {nb : Nat} (hbn : bornsOk nb ops [] = true) (hcst : (ops.all fun o => o.op.cst) = true) (hQ : ∀ s σ a w, K s → Holds B σ0 H0 w0 s σ a w → Q .normal a w) :
 ∀ (fuel : Nat) (u : List Nat) (listed : Array Bool) (D : List Ent) (rest : List Nat) (log : PLog) (s : St) (σ : Sig) (a : Act) (w : World), u.length ≤ fuel → (∀ i, i < ops.length → Lof listed i = false → i ∈ u) →
  Inv P ops aft n0 T0 B σ0 H0 w0 K listed D rest log s σ a w → wpAny P .any R Q fuel listed a w := by
 have hlen : R.size = ops.length := by rw [opersOk_length hops]; rfl
 -- who is ready
 have hready : ∀ {listed : Array Bool} {i : Nat}, listed.size = ops.length → i ∈ Region.ready .any R listed → ∃ oR es, R[i]? = some oR ∧ aft[i]? = some es ∧ Lof listed i = false ∧ (∀ e ∈ es, Lof listed e = true) := by
  intro listed i hsz hi
  obtain ⟨h1, oR, h2, h3⟩ := mem_ready.1 hi
  refine ⟨oR, _, h2, aftOk_get haft (by rw [Array.getElem?_toList]; exact h2), h1, fun e he => ?_⟩
  obtain ⟨ed, hed, rfl⟩ := List.mem_map.1 he
  rw [List.mem_filter] at hed
  have := h3 ed (by rw [← Array.mem_toList_iff]; exact hed.1) hed.2
  unfold Lof
  rw [Array.getD_eq_getD_getElem?] at this ⊢
  cases hh : listed[ed.on]? with
  | none => simp
  | some b => rw [hh] at this; simpa using this
 -- nobody is ready: all have been
 have hdone : ∀ {listed : Array Bool}, listed.size = ops.length → Region.ready .any R listed = [] → ∀ i, i < ops.length → Lof listed i = true := by
  intro listed hsz hnil i
  have hback : ∀ (l : List (List Nat)) (k : Nat), backOk l k = true → ∀ i es, l[i]? = some es → ∀ e ∈ es, e < k + i := by
   intro l
   induction l with
   | nil => intro k _ i es h; simp at h
   | cons es0 l ih =>
    intro k hk i es h e he
    simp only [backOk, Bool.and_eq_true] at hk
    cases i with
    | zero => simp only [List.getElem?_cons_zero, Option.some.injEq] at h; subst h; simpa using (List.all_eq_true.1 hk.1) e he
    | succ i => have := ih (k + 1) hk.2 i es (by simpa using h) e he; omega
  induction i using Nat.strongRecOn with
  | _ i ih =>
   intro hi
   cases hL : Lof listed i with
   | true => rfl
   | false =>
    exfalso
    have hiR : i < R.size := by omega
    have hmem : i ∈ Region.ready .any R listed := by
     rw [mem_ready]
     refine ⟨hL, R[i], Array.getElem?_eq_getElem hiR, fun e he hbd => ?_⟩
     have hes := aftOk_get haft (i := i) (o := R[i]) (by rw [Array.getElem?_toList]; exact Array.getElem?_eq_getElem hiR)
     have hlt := hback aft 0 hb i _ hes e.on (List.mem_map_of_mem (List.mem_filter.2 ⟨Array.mem_toList_iff.2 he, hbd⟩))
     have := ih e.on (by omega) (by omega)
     unfold Lof at this
     have hin : e.on < listed.size := by omega
     rw [Array.getD_eq_getD_getElem?, Array.getElem?_eq_getElem hin] at this ⊢
     simpa using this
    rw [hnil] at hmem; cases hmem
 have hend : ∀ {listed : Array Bool} {D : List Ent} {rest : List Nat} {log : PLog} {s : St} {σ : Sig} {a : Act} {w : World}, Inv P ops aft n0 T0 B σ0 H0 w0 K listed D rest log s σ a w → Region.ready .any R listed = [] → Q .normal a w := by
  intro listed D rest log s σ a w h hnil
  have hall := hdone h.size hnil
  have hrest : rest = [] := by
   cases rest with
   | nil => rfl
   | cons r rest =>
    obtain ⟨o1, o2, -⟩ := ordOk_cons h.ord
    exact absurd (h.inD r o2 (hall r o2)) o1
  subst hrest
  have hw : K s := h.walk
  refine hQ s σ a w hw ⟨h.rel, ?_, h.ext, h.below, h.defers⟩
  rw [VRs_iff]
  refine ⟨by rw [h.len, ← h.tlen]; rfl, fun i hi hi' => ?_⟩
  have := h.conc i a.tmps.toList[i] (by rw [← Array.getElem?_toList]; exact List.getElem?_eq_getElem hi')
  have e1 : look T0 D (Lof listed) i = look T0 D (fun _ => true) i := look_congr fun f hf _ => by
   obtain ⟨E1, E2, rfl, q1, -⟩ := okD_split h.ok hf
   exact hall f.idx q1.2.1
  rw [e1, ← h.eager i] at this
  simpa [List.getD, List.getElem?_eq_getElem hi] using this
 intro fuel
 induction fuel with
 | zero =>
  intro u listed D rest log s σ a w hu hun h
  have hu0 : u = [] := List.eq_nil_of_length_eq_zero (by omega)
  subst hu0
  have hnil : Region.ready .any R listed = [] := by
   cases hr : Region.ready .any R listed with
   | nil => rfl
   | cons i l =>
    exfalso
    obtain ⟨oR, es, h1, h2, h3, h4⟩ := hready h.size (i := i) (by rw [hr]; exact List.mem_cons_self)
    have hi : i < ops.length := by have := (Array.getElem?_eq_some_iff.1 h1).1; omega
    have := hun i hi h3
    cases this
  exact ⟨hnil, hend h hnil⟩
 | succ fuel ih =>
  intro u listed D rest log s σ a w hu hun h
  refine ⟨fun hnil => hend h hnil, fun i hi => ?_⟩
  obtain ⟨oR, es, h1, h2, h3, h4⟩ := hready h.size hi
  have hil : i < ops.length := by have := (Array.getElem?_eq_some_iff.1 h1).1; omega
  have hiu := hun i hil h3
  have hpre := pre_listed hb (fun i => Lof listed i = true) (fun i es h1 h2 => h.down i es h1 h2) i es h2 h4
  have hL' : ∀ j, Lof (listed.setIfInBounds i true) j = (decide (j = i) || Lof listed j) := by
   intro j
   unfold Lof
   by_cases hj : j = i
   ·subst hj
    rw [Array.getD_eq_getD_getElem?, Array.getElem?_setIfInBounds_self]
    split <;> simp
   ·rw [Array.getD_eq_getD_getElem?, Array.getElem?_setIfInBounds_ne (Ne.symm hj), ← Array.getD_eq_getD_getElem?]
    simp [hj]
  have hu' : (u.erase i).length ≤ fuel := by rw [List.length_erase_of_mem hiu]; omega
  have hun' : ∀ j, j < ops.length → Lof (listed.setIfInBounds i true) j = false → j ∈ u.erase i := by
   intro j hj hLj
   rw [hL', Bool.or_eq_false_iff, decide_eq_false_iff_not] at hLj
   exact (List.mem_erase_of_ne hLj.1).2 (hun j hj hLj.2)
  have walked : ∀ {D : List Ent} {rest : List Nat} {log : PLog} {s : St}, Inv P ops aft n0 T0 B σ0 H0 w0 K listed D rest log s σ a w → i ∈ idxs D → wpOp P R Q i (wpAny P .any R Q fuel (listed.setIfInBounds i true)) a w :=
   fun h hin => h.exec hops hp hb h2 h1 h3 h4 hin fun σ' a' w' h' => ih (u.erase i) _ _ _ _ _ σ' a' w' hu' hun' h'
  by_cases hin : i ∈ idxs D
  ·exact walked h hin
  ·have ho : ops[i]? = some ops[i] := List.getElem?_eq_getElem hil
   cases hm : ops[i].op.mov with
   | true =>
    have hrest : i ∈ rest := (ordOk_mem h.ord i hil).resolve_right hin
    obtain ⟨Al, Bl, rfl⟩ := List.append_of_mem hrest
    rcases mov_cases hm with ⟨j, b, hob⟩ | ⟨hnb, hpu⟩
    ·exact h.birth hops hp hb hbn hcst h2 h1 ho hob h3 h4 fun v s'' σ' a' w' h'' => ih (u.erase i) _ _ _ _ _ σ' a' w' hu' hun' h''
    ·obtain ⟨D', rest', log', s', h', hin'⟩ := h.pureAhead hops hp hbn hcst ho hpu (fun j hj hpj => h.inD j hj (hpre j hpj))
     exact walked h' hin'
   | false =>
    rcases h.reach hops hil hpre (fun o ho' => by rw [ho] at ho'; injection ho' with ho'; rw [← ho']; exact hm) hin with ⟨D', rest', log', s', h', hin'⟩ | ⟨D', rest', log', s', o, h', ho', hq⟩
    ·exact walked h' hin'
    ·refine h'.loud hops hp hb h2 h1 ho' hq (fun j b e => ?_) h3 h4 fun v s'' σ' a' w' h'' => ih (u.erase i) _ _ _ _ _ σ' a' w' hu' hun' h''
     rw [ho] at ho'; injection ho' with ho'
     rw [ho', e] at hm; cases hm
end drawn
theorem unord_get {wl : List (Nat × AOper)} {nb : Nat} {P : Program} {aft : List (List Nat)} (h : drawnOk P (unord wl) aft (wl.map (·.1)) nb = true) : ordOps (unord wl) (wl.map (·.1)) = wl := by
 simp only [drawnOk, Bool.and_eq_true] at h
 obtain ⟨hnd, hm⟩ := ordOk_nodup h.1.1.2
 have key : ∀ (L : List (Nat × AOper)), (∀ p ∈ L, p ∈ wl) → ordOps (unord wl) (L.map (·.1)) = L := by
  intro L
  induction L with
  | nil => intro _; rfl
  | cons p L ih =>
   intro hL
   have hp := hL p List.mem_cons_self
   have hlt := (hm p.1 (List.mem_map_of_mem hp)).2
   have hlen : (unord wl).length = wl.length := by simp [unord]
   have hget : (unord wl)[p.1]? = some p.2 := by
    have : wl.find? (fun q => q.1 == p.1) = some p := by
     have huniq : ∀ (M : List (Nat × AOper)), (M.map (·.1)).Nodup → p ∈ M → M.find? (fun q => q.1 == p.1) = some p := by
      intro M
      induction M with
      | nil => intro _ h; cases h
      | cons a M ihM =>
       intro hn hpm
       simp only [List.map_cons, List.nodup_cons] at hn
       rcases List.mem_cons.1 hpm with rfl | hpm
       ·simp
       ·have hne : a.1 ≠ p.1 := fun e => hn.1 (by rw [e]; exact List.mem_map_of_mem hpm)
        rw [List.find?_cons_of_neg (by simpa using hne)]
        exact ihM hn.2 hpm
     exact huniq wl hnd hp
    simp only [unord, List.getElem?_map, List.getElem?_range (by omega : p.1 < wl.length), Option.map_some, this]
   rw [List.map_cons, ordOps_cons hget, ih (fun q hq => hL q (List.mem_cons_of_mem _ hq))]
 exact key wl (fun p hp => hp)
theorem drawn_sound {P : Program} {ops : List AOper} {aft : List (List Nat)} {ord : List Nat} {nb id : Nat} {R : Array Oper} (h1 : opersOk P R ops R.toList = true) (h2 : aftOk aft R.toList = true) (h3 : drawnOk P ops aft ord nb = true) {K : St → Prop} {s : St}
 (h : xDrawn P s.H.length (preOf (befs aft [])) (ordOps ops ord) [] K ⟨s.T, s.H ++ List.replicate nb .ghost⟩) {B : Nat → Prop} {σ0 : Sig} {H0 : Heap} {w0 : World} {σ : Sig} {a : Act} {w : World} (hH : Holds B σ0 H0 w0 s σ a w) {Q : Exit → Act → World → Prop}
 (hQ : ∀ s σ a w, K s → Holds B σ0 H0 w0 s σ a w → Q .normal a w) : (Code.region id R true).wp P Q a w := by
 simp only [drawnOk, Bool.and_eq_true, beq_iff_eq] at h3
 obtain ⟨⟨⟨⟨⟨⟨hm, hal⟩, hb⟩, hp⟩, ho⟩, hbn⟩, hcst⟩ := h3
 have hlen : R.size = ops.length := by rw [opersOk_length h1]; rfl
 refine wp_region_any hm ?_
 have hlist : ∀ i, i < ops.length → Lof (Array.replicate R.size false) i = false := by
  intro i hi
  unfold Lof
  rw [Array.getD_eq_getD_getElem?, Array.getElem?_replicate, if_pos (by omega)]; rfl
 -- places are kept free
 have hghost : ∀ k, s.H.length ≤ k → k < s.H.length + nb → (s.H ++ List.replicate nb AObj.ghost)[k]? = some .ghost := by
  intro k h1 h2
  rw [List.getElem?_append_right h1, List.getElem?_replicate, if_pos (by omega)]
 have hold : ∀ {o : Nat} {y : AObj}, (s.H ++ List.replicate nb AObj.ghost)[o]? = some y → s.H[o]? = some y ∨ y = .ghost := by
  intro o y hy
  rw [List.getElem?_append] at hy
  split at hy
  ·exact .inl hy
  ·rw [List.getElem?_replicate] at hy
   split at hy
   ·injection hy with hy; exact .inr hy.symm
   ·cases hy
 have up : ∀ {o : Nat} {y : AObj}, s.H[o]? = some y → (s.H ++ List.replicate nb AObj.ghost)[o]? = some y := fun hy => by rw [List.getElem?_append_left (List.getElem?_eq_some_iff.1 hy).1]; exact hy
 have hg : Grow σ s.H σ (s.H ++ List.replicate nb .ghost) := ⟨by simp, fun h => ⟨_, up h, Nat.le_refl _, fun _ => rfl⟩, fun h => ⟨⟨_, up h⟩, rfl⟩, fun h => ⟨⟨_, _, up h⟩, rfl⟩⟩
 have hR' : RelH B σ (s.H ++ List.replicate nb .ghost) w := by
  refine ⟨fun {o y} hy => ?_, fun {o o' y y'} hy hy' h1 h2 hbb => ?_, hH.rel.base⟩
  ·rcases hold hy with hy | rfl
   ·exact (hH.rel.obj hy).grow hg rfl
   ·trivial
  ·rcases hold hy with hy | rfl
   ·rcases hold hy' with hy' | rfl
    ·exact hH.rel.apart hy hy' h1 h2 hbb
    ·cases h2
   ·cases h1
 have hext : Ext σ0 H0 σ (s.H ++ List.replicate nb .ghost) := hH.ext.trans ⟨hg, up, fun {o s' xs} hy => by
  rcases hold hy with hy | hy
  ·exact ⟨⟨_, hy⟩, rfl⟩
  ·cases hy⟩
 obtain ⟨hbk, -⟩ := born_slots hbn
 refine Inv.any (n0 := s.H.length) (T0 := s.T) (K := K) h1 h2 hal hp hb hbn hcst hQ R.size (List.range ops.length) _ [] ord [] ⟨s.T, s.H ++ List.replicate nb .ghost⟩ σ a _ (by simp [hlen]) (fun i hi _ => List.mem_range.2 hi) ?_
 refine ⟨by simp [hlen], fun i hi hL => (by rw [hlist i hi] at hL; cases hL), trivial, ho, h, fun t => rfl, rfl, trivial, ?_, fun t u hu => ?_, fun i es hi hL e he => ?_, hR'.drew, hext, hH.below.drew, hH.defers, (fun e he => by cases he),
  fun i o j b hi hb' _ => hghost _ (Nat.le_add_right _ _) (by have := (hbk i o j b hi hb').1; omega), ⟨_, hH.tmps.grow hg⟩, hH.ext.size⟩
 ·rw [hH.tmps.length]; rfl
 ·have hl : t < s.T.length := by
   rw [hH.tmps.length]
   exact (Array.getElem?_eq_some_iff.1 hu).1
  obtain ⟨u', hu', hv⟩ := hH.tmps.get (i := t) (List.getElem?_eq_getElem hl)
  rw [Array.getElem?_toList, hu] at hu'
  injection hu' with hu'; subst hu'
  simp only [look, List.getD, List.getElem?_eq_getElem hl, Option.getD_some]
  exact hv.grow hg
 ·exfalso
  have : i < ops.length := by rw [← hal]; exact (List.getElem?_eq_some_iff.1 hi).1
  rw [hlist i this] at hL; cases hL
end Go.Ax
