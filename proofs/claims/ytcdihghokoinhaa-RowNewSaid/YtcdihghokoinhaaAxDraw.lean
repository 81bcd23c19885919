/- Regions that draw their order: one walk in an order of our choice serves all. Conditions: none. -/
import Derived.Test.YtcdihghokoinhaaAxOne
import Derived.Orders
namespace Go.Ax
open Go Go.RowKit
set_option linter.unusedVariables false

theorem quiet_heap {T : List AVal} {H H' : Heap} {op : AOp} {v : AVal} (hq : op.quiet = true) (h : aStep T H op = some (v, H')) : H' = H := by
  cases op
  case sls size x lo hi mx =>
    simp only [aStep] at h
    repeat' split at h
    all_goals first
      | (cases h; done)
      | (simp only [Option.some.injEq, Prod.mk.injEq] at h; exact h.2.symm)
  case len str x =>
    cases str <;> simp only [aStep] at h <;> (repeat' split at h) <;> first
      | (cases h; done)
      | (simp only [Option.some.injEq, Prod.mk.injEq] at h; exact h.2.symm)
  all_goals
    simp only [AOp.quiet, Bool.false_eq_true] at hq
  all_goals
    simp only [aStep] at h
    (repeat' split at h) <;> first
      | (cases h; done)
      | (simp only [Option.some.injEq, Prod.mk.injEq] at h; exact h.2.symm)
      | (simp only [Option.map_eq_some_iff, Prod.mk.injEq] at h; obtain ⟨_, _, _, h⟩ := h; exact h.symm)

/-! ### Ahead of another one -/

theorem testBit_fold (acc : List Nat) (j : Nat) : ∀ (es : List Nat) (s : Nat), (es.foldl (fun s e => s ||| (2 ^ e) ||| acc.getD e 0) s).testBit j = true ↔ s.testBit j = true ∨ ∃ e ∈ es, e = j ∨ (acc.getD e 0).testBit j = true
  | [], s => by simp
  | e :: es, s => by
    rw [List.foldl_cons, testBit_fold acc j es]
    simp only [Nat.testBit_or, Bool.or_eq_true, Nat.testBit_two_pow, decide_eq_true_eq, List.mem_cons, exists_eq_or_imp]
    constructor
    · rintro ((h | h) | h)
      · rcases h with h | h
        · exact .inl h
        · exact .inr (.inl (.inl h))
      · exact .inr (.inl (.inr h))
      · exact .inr (.inr h)
    · rintro (h | (h | h) | h)
      · exact .inl (.inl (.inl h))
      · exact .inl (.inl (.inr h))
      · exact .inl (.inr h)
      · exact .inr h

theorem befs_prefix : ∀ (aft : List (List Nat)) (acc : List Nat), ∃ r, befs aft acc = acc ++ r ∧ r.length = aft.length
  | [], acc => ⟨[], by simp [befs], rfl⟩
  | es :: l, acc => by
    obtain ⟨r, h, hl⟩ := befs_prefix l (acc ++ [es.foldl (fun s e => s ||| (2 ^ e) ||| acc.getD e 0) 0])
    exact ⟨_ :: r, by rw [befs, h, List.append_assoc]; rfl, by simp [hl]⟩

/-- What comes ahead of one comes straight ahead of it, or ahead of such a one. -/
theorem pre_step : ∀ (aft : List (List Nat)) (acc : List Nat), backOk aft acc.length = true → ∀ (i : Nat) (es : List Nat), aft[i]? = some es → ∀ j, preOf (befs aft acc) (acc.length + i) j = true →
    ∃ e ∈ es, e = j ∨ preOf (befs aft acc) e j = true
  | [], _, _, i, es, h, _, _ => by simp at h
  | es0 :: l, acc, hb, i, es, h, j, hp => by
    simp only [backOk, Bool.and_eq_true] at hb
    cases i with
    | zero =>
      simp only [List.getElem?_cons_zero, Option.some.injEq] at h; subst h
      obtain ⟨r, hr, -⟩ := befs_prefix l (acc ++ [es0.foldl (fun s e => s ||| (2 ^ e) ||| acc.getD e 0) 0])
      have hbf : befs (es0 :: l) acc = acc ++ (es0.foldl (fun s e => s ||| (2 ^ e) ||| acc.getD e 0) 0 :: r) := by rw [befs, hr, List.append_assoc]; rfl
      have hget : (befs (es0 :: l) acc).getD acc.length 0 = es0.foldl (fun s e => s ||| (2 ^ e) ||| acc.getD e 0) 0 := by
        rw [hbf]; simp [List.getD]
      unfold preOf at hp
      rw [Nat.add_zero, hget, testBit_fold] at hp
      rcases hp with hp | ⟨e, he, hp⟩
      · simp at hp
      · refine ⟨e, he, hp.imp id fun hp => ?_⟩
        have hlt : e < acc.length := by simpa using (List.all_eq_true.1 hb.1) e he
        unfold preOf
        rw [hbf]
        simp only [List.getD, List.getElem?_append_left hlt]
        simpa [List.getD] using hp
    | succ i =>
      have ih := pre_step l (acc ++ [es0.foldl (fun s e => s ||| (2 ^ e) ||| acc.getD e 0) 0]) (by simpa using hb.2) i es (by simpa using h) j (by
        rw [befs] at hp
        simpa [Nat.add_assoc, Nat.add_comm 1 i] using hp)
      rw [befs]; exact ih

/-- All that comes ahead of one that is ready has been. -/
theorem pre_listed {aft : List (List Nat)} (hb : backOk aft 0 = true) (L : Nat → Prop) (hL : ∀ i es, aft[i]? = some es → L i → ∀ e ∈ es, L e) :
    ∀ (i : Nat) (es : List Nat), aft[i]? = some es → (∀ e ∈ es, L e) → ∀ j, preOf (befs aft []) i j = true → L j := by
  have hback : ∀ (l : List (List Nat)) (k : Nat), backOk l k = true → ∀ i es, l[i]? = some es → ∀ e ∈ es, e < k + i := by
    intro l
    induction l with
    | nil => intro k _ i es h; simp at h
    | cons es0 l ih =>
      intro k hk i es h e he
      simp only [backOk, Bool.and_eq_true] at hk
      cases i with
      | zero => simp only [List.getElem?_cons_zero, Option.some.injEq] at h; subst h; simpa using (List.all_eq_true.1 hk.1) e he
      | succ i => have := ih (k + 1) hk.2 i es (by simpa using h) e he; omega
  intro i
  induction i using Nat.strongRecOn with
  | _ i ih =>
    intro es h hes j hp
    obtain ⟨e, he, hj⟩ := pre_step aft [] hb i es h j (by simpa using hp)
    rcases hj with rfl | hj
    · exact hes _ he
    · have hlt := hback aft 0 hb i es h e he
      cases hae : aft[e]? with
      | none =>
        exfalso
        have : (befs aft []).length = aft.length := by obtain ⟨r, hr, hl⟩ := befs_prefix aft []; rw [hr]; simpa using hl
        have hge : aft.length ≤ e := by rw [List.getElem?_eq_none_iff] at hae; exact hae
        unfold preOf at hj
        rw [List.getD, List.getElem?_eq_none (by omega)] at hj
        simp at hj
      | some es' => exact ih e (by omega) es' hae (fun e' he' => hL e es' hae (hes e he) e' he') j hj

theorem opersOk_length {P : Program} {R : Array Oper} : ∀ {l : List AOper} {r : List Oper}, opersOk P R l r = true → l.length = r.length
  | [], [], _ => rfl
  | a :: l, o :: r, h => by simp only [opersOk, Bool.and_eq_true] at h; simp [opersOk_length h.2]
  | [], _ :: _, h => by simp [opersOk] at h
  | _ :: _, [], h => by simp [opersOk] at h

theorem opersOk_get {P : Program} {R : Array Oper} : ∀ {l : List AOper} {r : List Oper}, opersOk P R l r = true → ∀ {i : Nat} {a : AOper} {o : Oper}, l[i]? = some a → r[i]? = some o → operOk P R a o = true
  | [], _, _, i, a, o, h, _ => by simp at h
  | a :: l, [], h, _, _, _, _, _ => by simp [opersOk] at h
  | a :: l, o :: r, h, i, a', o', ha, ho => by
    simp only [opersOk, Bool.and_eq_true] at h
    cases i with
    | zero => simp at ha ho; subst ha; subst ho; exact h.1
    | succ i => exact opersOk_get h.2 (by simpa using ha) (by simpa using ho)

theorem aftOk_get : ∀ {l : List (List Nat)} {r : List Oper}, aftOk l r = true → ∀ {i : Nat} {o : Oper}, r[i]? = some o → l[i]? = some ((o.after.toList.filter (Region.binds .any)).map (·.on))
  | [], [], _, i, o, h => by simp at h
  | es :: l, o :: r, h, i, o', ho => by
    simp only [aftOk, Bool.and_eq_true, beq_iff_eq] at h
    cases i with
    | zero => simp at ho; subst ho; simp [h.1]
    | succ i => simpa using aftOk_get h.2 (by simpa using ho)
  | [], _ :: _, h, _, _, _ => by simp [aftOk] at h
  | _ :: _, [], h, _, _, _ => by simp [aftOk] at h

/-! ### What has been walked -/

structure Ent where
  idx : Nat
  dst : Option Nat
  v : AVal

/-- A temporary's value behind those that have been done, the latest first; of them those count that L names. -/
def look (T0 : List AVal) : List Ent → (Nat → Bool) → Nat → AVal
  | [], _, t => T0.getD t .top
  | e :: D, L, t => if L e.idx = true ∧ e.dst = some t ∧ t < T0.length then e.v else look T0 D L t

def idxs (D : List Ent) : List Nat := D.map (·.idx)

theorem setDst_getD (T : List AVal) (dst : Option Nat) (v : AVal) (t : Nat) : (setDst T dst v).getD t .top = if dst = some t ∧ t < T.length then v else T.getD t .top := by
  cases dst with
  | none => simp [setDst]
  | some d =>
    simp only [setDst, List.getD, Option.some.injEq]
    by_cases h : d = t
    · subst h
      by_cases hl : d < T.length
      · simp [hl]
      · simp [hl]
    · rw [List.getElem?_set_ne h, if_neg (by simp [h])]

theorem setDst_length (T : List AVal) (dst : Option Nat) (v : AVal) : (setDst T dst v).length = T.length := by cases dst <;> simp [setDst]

/-- Who is not named does not count. -/
theorem look_congr {T0 : List AVal} : ∀ {D : List Ent} {L L' : Nat → Bool} {t : Nat}, (∀ e ∈ D, e.dst = some t → L e.idx = L' e.idx) → look T0 D L t = look T0 D L' t
  | [], _, _, _, _ => rfl
  | e :: D, L, L', t, h => by
    simp only [look]
    have ih := look_congr (T0 := T0) (D := D) (fun e he => h e (List.mem_cons_of_mem _ he))
    by_cases hd : e.dst = some t
    · rw [h e List.mem_cons_self hd, ih]
    · simp only [hd, false_and, and_false, if_false]; exact ih

theorem look_skip {T0 : List AVal} {t : Nat} {L : Nat → Bool} : ∀ {D1 D2 : List Ent}, (∀ e ∈ D1, e.dst = some t → L e.idx = false) → look T0 (D1 ++ D2) L t = look T0 D2 L t
  | [], _, _ => rfl
  | e :: D1, D2, h => by
    simp only [List.cons_append, look]
    have ih := look_skip (T0 := T0) (D1 := D1) (D2 := D2) (fun e he => h e (List.mem_cons_of_mem _ he))
    rw [if_neg, ih]
    rintro ⟨h1, h2, -⟩
    rw [h e List.mem_cons_self h2] at h1; cases h1

/-- All that comes ahead of each has been done ahead of it. -/
def okD (ops : List AOper) (bs : List Nat) : List Ent → Prop
  | [] => True
  | e :: D => e.idx ∉ idxs D ∧ e.idx < ops.length ∧ (∀ k, k < ops.length → preOf bs e.idx k = true → k ∈ idxs D) ∧ (∃ o, ops[e.idx]? = some o ∧ o.dst = e.dst) ∧ okD ops bs D

/-- One that has been walked and is yet to be done. -/
def Pend (ops : List AOper) (T0 : List AVal) (log : List Log) (H : Heap) (e : Ent) (D : List Ent) : Prop :=
  ∃ (Ti : List AVal) (o : AOper), ops[e.idx]? = some o ∧ (∀ t, Ti.getD t .top = look T0 D (fun _ => true) t) ∧
    ((o.op.quiet = true ∧ (∀ d b, o.guard = some (d, b) → Ti.getD d .top = .bool b) ∧ aStep Ti H o.op = some (e.v, H) ∧ ⟨e.idx, o.op, Ti, e.v⟩ ∈ log) ∨
     (∃ d b g, o.guard = some (d, b) ∧ Ti.getD d .top = .bool g ∧ g ≠ b ∧ e.v = .top))

def pendD (ops : List AOper) (T0 : List AVal) (log : List Log) (H : Heap) (L : Nat → Bool) : List Ent → Prop
  | [] => True
  | e :: D => (L e.idx = true ∨ Pend ops T0 log H e D) ∧ pendD ops T0 log H L D

theorem okD_split {ops : List AOper} {bs : List Nat} : ∀ {D : List Ent} {e : Ent}, okD ops bs D → e ∈ D → ∃ D1 D2, D = D1 ++ e :: D2 ∧ okD ops bs (e :: D2) ∧ (∀ f ∈ D1, f.idx ∉ idxs (e :: D2) ∧ ∃ o, ops[f.idx]? = some o ∧ o.dst = f.dst)
  | [], _, _, h => by cases h
  | f :: D, e, hok, h => by
    rcases List.mem_cons.1 h with rfl | h
    · exact ⟨[], D, rfl, hok, fun f hf => by cases hf⟩
    · obtain ⟨h1, h2, h3, h4, h5⟩ := hok
      obtain ⟨D1, D2, rfl, q1, q2⟩ := okD_split h5 h
      refine ⟨f :: D1, D2, rfl, q1, fun g hg => ?_⟩
      rcases List.mem_cons.1 hg with rfl | hg
      · exact ⟨fun hh => h1 (by simp only [idxs, List.map_append, List.mem_append]; exact .inr hh), h4⟩
      · exact q2 g hg

theorem okD_pre {ops : List AOper} {bs : List Nat} : ∀ {D1 D2 : List Ent} {f : Ent}, okD ops bs (D1 ++ D2) → f ∈ D1 → f.idx < ops.length ∧ ∀ k, k < ops.length → preOf bs f.idx k = true → k ∈ idxs (D1 ++ D2)
  | [], _, _, _, h => by cases h
  | g :: D1, D2, f, hok, h => by
    obtain ⟨h1, h2, h3, h4, h5⟩ := hok
    rcases List.mem_cons.1 h with rfl | h
    · exact ⟨h2, fun k hk hp => by have := h3 k hk hp; simp only [idxs, List.cons_append, List.map_cons, List.mem_cons]; exact .inr this⟩
    · obtain ⟨q1, q2⟩ := okD_pre h5 h
      exact ⟨q1, fun k hk hp => by have := q2 k hk hp; simp only [idxs, List.cons_append, List.map_cons, List.mem_cons] at *; exact .inr this⟩

theorem okD_tail {ops : List AOper} {bs : List Nat} : ∀ {D1 D2 : List Ent}, okD ops bs (D1 ++ D2) → okD ops bs D2
  | [], _, h => h
  | _ :: D1, D2, h => okD_tail (D1 := D1) h.2.2.2.2

theorem idxs_append (D1 D2 : List Ent) : idxs (D1 ++ D2) = idxs D1 ++ idxs D2 := List.map_append ..

theorem okD_apart {ops : List AOper} {bs : List Nat} {f : Ent} : ∀ {E1 E2 : List Ent}, okD ops bs (E1 ++ E2) → f ∈ E1 → f.idx ∉ idxs E2
  | [], _, _, h => by cases h
  | g :: E1, E2, hok, h => by
    have q5 := hok.2.2.2.2
    have q1 : g.idx ∉ idxs (E1 ++ E2) := hok.1
    rcases List.mem_cons.1 h with rfl | h
    · intro hh
      rw [idxs_append] at q1
      exact q1 (List.mem_append_right _ hh)
    · exact okD_apart q5 h

theorem pendD_get {ops : List AOper} {T0 : List AVal} {log : List Log} {H : Heap} {L : Nat → Bool} : ∀ {D1 D2 : List Ent} {e : Ent}, pendD ops T0 log H L (D1 ++ e :: D2) → L e.idx = true ∨ Pend ops T0 log H e D2
  | [], _, _, h => h.1
  | _ :: D1, D2, e, h => pendD_get (D1 := D1) h.2

theorem pendD_mono {ops : List AOper} {T0 : List AVal} {log log' : List Log} {H H' : Heap} {L L' : Nat → Bool} : ∀ {D : List Ent}, pendD ops T0 log H L D → (∀ e ∈ D, L e.idx = true → L' e.idx = true) →
    (∀ e ∈ D, L' e.idx = false → ∀ D2, Pend ops T0 log H e D2 → Pend ops T0 log' H' e D2) → pendD ops T0 log' H' L' D
  | [], _, _, _ => trivial
  | e :: D, h, h1, h2 => by
    refine ⟨?_, pendD_mono h.2 (fun e he => h1 e (List.mem_cons_of_mem _ he)) (fun e he => h2 e (List.mem_cons_of_mem _ he))⟩
    rcases h.1 with h | h
    · exact .inl (h1 e List.mem_cons_self h)
    · cases hL : L' e.idx with
      | true => exact .inl rfl
      | false => exact .inr (h2 e List.mem_cons_self hL D h)

theorem chk_mem {pre : Nat → Bool} {H : Heap} : ∀ {log : List Log} {l : Log}, chk pre H log → l ∈ log → pre l.idx = true ∨ aStep l.T H l.op = some (l.v, H)
  | [], _, _, h => by cases h
  | _ :: log, l, hc, h => by
    rcases List.mem_cons.1 h with rfl | h
    · exact hc.1
    · exact chk_mem hc.2 h

/-- Two that are not ordered do not meddle. -/
theorem pairs_spec {ops : List AOper} {bs : List Nat} (h : pairsOk ops bs = true) {i j : Nat} {a b : AOper} (ha : ops[i]? = some a) (hb : ops[j]? = some b) (hij : i ≠ j) {t : Nat} (hd : b.dst = some t) (ht : t ∈ a.looks ∨ a.dst = some t) :
    preOf bs i j = true ∨ preOf bs j i = true := by
  have hi : i < ops.length := (List.getElem?_eq_some_iff.1 ha).1
  have hj : j < ops.length := (List.getElem?_eq_some_iff.1 hb).1
  unfold pairsOk at h
  rw [List.all_eq_true] at h
  rcases Nat.lt_or_gt_of_ne hij with hlt | hlt
  · have h1 := h j (List.mem_range.2 hj)
    rw [List.all_eq_true] at h1
    have h2 := h1 i (List.mem_range.2 hlt)
    simp only [ha, hb, hd, Bool.or_eq_true, Bool.and_eq_true, Bool.not_eq_true', bne_iff_ne, ne_eq] at h2
    rcases h2 with h2 | ⟨⟨h2, h3⟩, h4⟩
    · exact .inr h2
    · exfalso
      rcases ht with ht | ht
      · rw [List.contains_eq_mem, decide_eq_false_iff_not] at h2; exact h2 ht
      · exact h3 ht
  · have h1 := h i (List.mem_range.2 hi)
    rw [List.all_eq_true] at h1
    have h2 := h1 j (List.mem_range.2 hlt)
    simp only [ha, hb, hd, Bool.or_eq_true, Bool.and_eq_true, Bool.not_eq_true'] at h2
    rcases h2 with h2 | ⟨h2, h3⟩
    · exact .inl h2
    · exfalso
      rcases ht with ht | ht
      · rw [List.contains_eq_mem, decide_eq_false_iff_not] at h3; exact h3 ht
      · rw [ht] at h2
        simp at h2

section drawn
variable {P : Program} {R : Array Oper} {ops : List AOper} {aft : List (List Nat)} {T0 : List AVal} {B : Nat} {σ0 : Sig} {H0 : Heap} {w0 : World} {K : St → Prop} {Q : Exit → Act → World → Prop}

def Lof (listed : Array Bool) (i : Nat) : Bool := listed.getD i true

structure Inv (P : Program) (ops : List AOper) (aft : List (List Nat)) (T0 : List AVal) (B : Nat) (σ0 : Sig) (H0 : Heap) (w0 : World) (K : St → Prop) (listed : Array Bool) (D : List Ent) (rest : List Nat) (log : List Log) (s : St) (σ : Sig) (a : Act) (w : World) : Prop where
  size : listed.size = ops.length
  inD : ∀ i, i < ops.length → Lof listed i = true → i ∈ idxs D
  ok : okD ops (befs aft []) D
  ord : ordOk ops (befs aft []) rest (idxs D) = true
  walk : xDrawn P ops (preOf (befs aft [])) rest log K s
  eager : ∀ t, s.T.getD t .top = look T0 D (fun _ => true) t
  len : s.T.length = T0.length
  pend : pendD ops T0 log s.H (Lof listed) D
  tlen : a.tmps.size = T0.length
  conc : ∀ t v, a.tmps[t]? = some v → VR σ s.H (look T0 D (Lof listed) t) v
  down : ∀ i es, aft[i]? = some es → Lof listed i = true → ∀ e ∈ es, Lof listed e = true
  rel : RelH B σ s.H w
  ext : Ext σ0 H0 σ s.H
  below : Below B w0 w
  defers : a.defers = []

theorem Inv.vrs {listed : Array Bool} {D : List Ent} {rest : List Nat} {log : List Log} {s : St} {σ : Sig} {a : Act} {w : World} (h : Inv P ops aft T0 B σ0 H0 w0 K listed D rest log s σ a w) :
    VRs σ s.H ((List.range T0.length).map (look T0 D (Lof listed))) a.tmps.toList := by
  rw [VRs_iff]
  refine ⟨by simp [h.tlen], fun i hi hi' => ?_⟩
  simp only [List.getElem_map, List.getElem_range]
  exact h.conc i _ (by rw [← Array.getElem?_toList]; exact List.getElem?_eq_getElem hi')

theorem rangeT_getD (f : Nat → AVal) (n t : Nat) (hf : ∀ t, n ≤ t → f t = .top) : ((List.range n).map f).getD t .top = f t := by
  by_cases h : t < n
  · simp [List.getD, h]
  · simp [List.getD, h, hf t (by omega)]

theorem look_out {D : List Ent} {L : Nat → Bool} {t : Nat} (h : T0.length ≤ t) : look T0 D L t = .top := by
  induction D with
  | nil => simp [look, List.getD, h]
  | cons e D ih => simp only [look]; rw [if_neg (by omega)]; exact ih

theorem TL_getD (D : List Ent) (L : Nat → Bool) (t : Nat) : ((List.range T0.length).map (look T0 D L)).getD t .top = look T0 D L t := rangeT_getD _ _ _ (fun t h => look_out h)

/-- What a ready one looks at is as it was when it was walked. -/
theorem Inv.looks (hp : pairsOk ops (befs aft []) = true) (hb : backOk aft 0 = true) {listed : Array Bool} {D : List Ent} {rest : List Nat} {log : List Log} {s : St} {σ : Sig} {a : Act} {w : World}
    (h : Inv P ops aft T0 B σ0 H0 w0 K listed D rest log s σ a w) {i : Nat} {es : List Nat} {o : AOper} (hi : aft[i]? = some es) (ho : ops[i]? = some o) (hL : Lof listed i = false) (hr : ∀ e ∈ es, Lof listed e = true)
    {D1 D2 : List Ent} {t : Nat} (ht : t ∈ o.looks ∨ o.dst = some t) :
    (∀ e, D = D1 ++ e :: D2 → e.idx = i → look T0 D (Lof listed) t = look T0 D2 (fun _ => true) t ∧ ∀ f ∈ D1, f.dst = some t → Lof listed f.idx = false) ∧ (i ∉ idxs D → look T0 D (Lof listed) t = look T0 D (fun _ => true) t) := by
  have hpre := pre_listed hb (fun i => Lof listed i = true) (fun i es h1 h2 => h.down i es h1 h2) i es hi hr
  have hin : i < ops.length := (List.getElem?_eq_some_iff.1 ho).1
  -- whoever writes there and has been done ahead
  have ahead : ∀ (f : Ent), f ∈ D → f.dst = some t → f.idx ≠ i → (preOf (befs aft []) f.idx i = true → Lof listed f.idx = false) ∧ (preOf (befs aft []) i f.idx = true ∨ preOf (befs aft []) f.idx i = true) := by
    intro f hf hd hne
    obtain ⟨E1, E2, rfl, q1, -⟩ := okD_split h.ok hf
    obtain ⟨-, hfl, -, ⟨of, hof, hofd⟩, -⟩ := q1
    refine ⟨fun hpf => ?_, pairs_spec hp ho hof (Ne.symm hne) (hofd.trans hd) ht⟩
    cases hLf : Lof listed f.idx with
    | false => rfl
    | true =>
      exfalso
      cases haf : aft[f.idx]? with
      | none =>
        have hlen : (befs aft []).length = aft.length := by obtain ⟨r, hr, hl⟩ := befs_prefix aft []; rw [hr]; simpa using hl
        rw [List.getElem?_eq_none_iff] at haf
        unfold preOf at hpf
        rw [List.getD, List.getElem?_eq_none (by omega)] at hpf
        simp at hpf
      | some es' =>
        have := pre_listed hb (fun i => Lof listed i = true) (fun i es h1 h2 => h.down i es h1 h2) f.idx es' haf (h.down _ _ haf hLf) i hpf
        rw [hL] at this; cases this
  constructor
  · rintro e rfl rfl
    have hok := h.ok
    have hsplit := okD_tail (D1 := D1) hok
    obtain ⟨hnin, -, hpr, -, hok2⟩ := hsplit
    have hd1 : ∀ f ∈ D1, f.idx ≠ e.idx := by
      intro f hf heq
      have hall : ∀ {E1 E2 : List Ent}, okD ops (befs aft []) (E1 ++ E2) → f ∈ E1 → f.idx ∉ idxs E2 := fun h1 h2 => okD_apart h1 h2
      exact hall hok hf (by simp [idxs, heq])
    have later : ∀ f ∈ D1, f.dst = some t → Lof listed f.idx = false := by
      intro f hf hd
      obtain ⟨g1, g2⟩ := ahead f (by simp [hf]) hd (hd1 f hf)
      rcases g2 with g2 | g2
      · -- f comes ahead of i, and was done behind it
        exfalso
        have hfl := (okD_pre hok hf).1
        have := hpr f.idx hfl g2
        have hall : ∀ {E1 E2 : List Ent}, okD ops (befs aft []) (E1 ++ E2) → f ∈ E1 → f.idx ∉ idxs E2 := fun h1 h2 => okD_apart h1 h2
        exact hall hok hf (by simp only [idxs, List.map_cons, List.mem_cons]; exact .inr this)
      · exact g1 g2
    refine ⟨?_, later⟩
    rw [look_skip (D1 := D1) (D2 := e :: D2)]
    · simp only [look, hL, Bool.false_eq_true, false_and, if_false]
      refine look_congr fun f hf hd => ?_
      have hne : f.idx ≠ e.idx := fun heq => hnin (by rw [← heq]; exact List.mem_map_of_mem hf)
      obtain ⟨g1, g2⟩ := ahead f (by simp [hf]) hd hne
      rcases g2 with g2 | g2
      · exact hpre _ g2
      · -- it was done ahead of i, and i ahead of it
        exfalso
        obtain ⟨E1, E2, rfl, q1, -⟩ := okD_split hok2 hf
        have := q1.2.2.1 e.idx hin g2
        exact hnin (by simp only [idxs, List.map_append, List.map_cons, List.mem_append, List.mem_cons]; exact .inr (.inr this))
    · exact later
  · intro hni
    refine look_congr fun f hf hd => ?_
    have hne : f.idx ≠ i := fun heq => hni (by rw [← heq]; exact List.mem_map_of_mem hf)
    obtain ⟨g1, g2⟩ := ahead f hf hd hne
    rcases g2 with g2 | g2
    · exact hpre _ g2
    · exfalso
      obtain ⟨E1, E2, rfl, q1, -⟩ := okD_split h.ok hf
      have := q1.2.2.1 i hin g2
      exact hni (by simp only [idxs, List.map_append, List.map_cons, List.mem_append, List.mem_cons]; exact .inr (.inr this))


theorem ordOk_cons {bs : List Nat} {i : Nat} {rest done : List Nat} (h : ordOk ops bs (i :: rest) done = true) : i ∉ done ∧ i < ops.length ∧ (∀ j, j < ops.length → preOf bs i j = true → j ∈ done) ∧
    (∃ o, ops[i]? = some o ∧ (o.op.quiet = true ∨ ∀ k ∈ rest, preOf bs k i = true)) ∧ ordOk ops bs rest (i :: done) = true := by
  simp only [ordOk, Bool.and_eq_true, Bool.not_eq_true', decide_eq_true_eq] at h
  obtain ⟨⟨⟨⟨h1, h2⟩, h3⟩, h4⟩, h5⟩ := h
  refine ⟨by rw [List.contains_eq_mem, decide_eq_false_iff_not] at h1; exact h1, h2, fun j hj hp => ?_, ?_, h5⟩
  · have := (List.all_eq_true.1 h3) j (List.mem_range.2 hj)
    rw [hp] at this
    simpa using this
  · split at h4
    · rename_i o ho
      refine ⟨o, ho, ?_⟩
      rw [Bool.or_eq_true] at h4
      exact h4.imp id fun h => List.all_eq_true.1 h
    · cases h4

/-- A quiet one is walked. -/
theorem Inv.adv {listed : Array Bool} {D : List Ent} {r : Nat} {rest : List Nat} {log : List Log} {s : St} {σ : Sig} {a : Act} {w : World} (h : Inv P ops aft T0 B σ0 H0 w0 K listed D (r :: rest) log s σ a w)
    {o : AOper} (ho : ops[r]? = some o) (hq : o.op.quiet = true) : ∃ v log' s', Inv P ops aft T0 B σ0 H0 w0 K listed (⟨r, o.dst, v⟩ :: D) rest log' s' σ a w := by
  obtain ⟨o1, o2, o3, -, o5⟩ := ordOk_cons h.ord
  have hLr : Lof listed r = false := by
    cases hL : Lof listed r with
    | false => rfl
    | true => exact absurd (h.inD r o2 hL) o1
  -- what is the same whatever it yields
  have fin : ∀ (v : AVal) (log' : List Log), (∀ l ∈ log, l ∈ log') → xDrawn P ops (preOf (befs aft [])) rest log' K ⟨setDst s.T o.dst v, s.H⟩ → Pend ops T0 log' s.H ⟨r, o.dst, v⟩ D →
      ∃ v log' s', Inv P ops aft T0 B σ0 H0 w0 K listed (⟨r, o.dst, v⟩ :: D) rest log' s' σ a w := by
    intro v log' hsub hw hp
    refine ⟨v, log', ⟨setDst s.T o.dst v, s.H⟩, ⟨h.size, fun i hi hL => List.mem_cons_of_mem _ (h.inD i hi hL), ⟨o1, o2, o3, ⟨o, ho, rfl⟩, h.ok⟩, o5, hw, fun t => ?_, by rw [setDst_length]; exact h.len, ⟨.inr hp, ?_⟩, h.tlen, fun t u hu => ?_, h.down, h.rel, h.ext, h.below, h.defers⟩⟩
    · simp only [look, true_and, setDst_getD, h.len, h.eager]
    · refine pendD_mono h.pend (fun e _ hL => hL) (fun e _ _ D2 hpe => ?_)
      obtain ⟨Ti, o', q1, q2, q3⟩ := hpe
      exact ⟨Ti, o', q1, q2, q3.imp (fun ⟨a1, a2, a3, a4⟩ => ⟨a1, a2, a3, hsub _ a4⟩) id⟩
    · have := h.conc t u hu
      simp only [look, hLr, Bool.false_eq_true, false_and, if_false]
      exact this
  have hw := h.walk
  simp only [xDrawn, ho] at hw
  have run : (match aStep s.T s.H o.op with | some (v, _) => xDrawn P ops (preOf (befs aft [])) rest (⟨r, o.op, s.T, v⟩ :: log) K ⟨setDst s.T o.dst v, s.H⟩ | none => False) → (∀ d b, o.guard = some (d, b) → s.T.getD d .top = .bool b) →
      ∃ v log' s', Inv P ops aft T0 B σ0 H0 w0 K listed (⟨r, o.dst, v⟩ :: D) rest log' s' σ a w := by
    intro hw hg
    split at hw
    case h_2 => exact hw.elim
    rename_i v H' hst
    have := quiet_heap hq hst
    subst this
    exact fin v (⟨r, o.op, s.T, v⟩ :: log) (fun l hl => List.mem_cons_of_mem _ hl) hw ⟨s.T, o, ho, h.eager, .inl ⟨hq, hg, hst, List.mem_cons_self⟩⟩
  split at hw
  · rename_i hg
    rw [if_pos hq] at hw
    exact run hw (fun d b hh => by rw [hg] at hh; cases hh)
  · rename_i d b hg
    split at hw
    case h_2 => exact hw.elim
    rename_i g hgv
    simp only [aget] at hgv
    obtain ⟨w1, w2⟩ := hw
    by_cases hgb : g = b
    · have := w1 hgb
      rw [if_pos hq] at this
      exact run this (fun d' b' hh => by rw [hg] at hh; injection hh with hh; injection hh with e1 e2; subst e1; subst e2; rw [hgv, hgb])
    · exact fin .top log (fun l hl => hl) (w2 hgb) ⟨s.T, o, ho, h.eager, .inr ⟨d, b, g, hg, hgv, hgb, rfl⟩⟩

/-- One that has been walked is done. -/
theorem Inv.list {listed : Array Bool} {D : List Ent} {rest : List Nat} {log : List Log} {s : St} {σ σ' : Sig} {a a' : Act} {w w' : World} (h : Inv P ops aft T0 B σ0 H0 w0 K listed D rest log s σ a w)
    {i : Nat} {es : List Nat} (hi : aft[i]? = some es) (hil : i < ops.length) (hr : ∀ e ∈ es, Lof listed e = true) {D1 D2 : List Ent} {e : Ent} (hD : D = D1 ++ e :: D2) (he : e.idx = i)
    (later : ∀ t, e.dst = some t → ∀ f ∈ D1, f.dst = some t → Lof listed f.idx = false)
    (hH : Holds B σ0 H0 w0 ⟨setDst ((List.range T0.length).map (look T0 D (Lof listed))) e.dst e.v, s.H⟩ σ' a' w') : Inv P ops aft T0 B σ0 H0 w0 K (listed.setIfInBounds i true) D rest log s σ' a' w' := by
  have hL' : ∀ j, Lof (listed.setIfInBounds i true) j = (decide (j = i) || Lof listed j) := by
    intro j
    unfold Lof
    by_cases hj : j = i
    · subst hj
      rw [Array.getD_eq_getD_getElem?, Array.getElem?_setIfInBounds_self]
      split <;> simp
    · rw [Array.getD_eq_getD_getElem?, Array.getElem?_setIfInBounds_ne (Ne.symm hj), ← Array.getD_eq_getD_getElem?]
      simp [hj]
  have hnin : ∀ f ∈ D1, f.idx ≠ i := by
    intro f hf heq
    have hok := h.ok
    rw [hD] at hok
    exact okD_apart hok hf (by rw [heq, ← he]; simp [idxs])
  have hnin2 : ∀ f ∈ D2, f.idx ≠ i := by
    intro f hf heq
    have hok := h.ok
    rw [hD] at hok
    have := (okD_tail hok).1
    exact this (by rw [he, ← heq]; exact List.mem_map_of_mem hf)
  refine ⟨by simpa using h.size, fun j hj hL => ?_, h.ok, h.ord, h.walk, h.eager, h.len, pendD_mono h.pend (fun f _ hf => by rw [hL', hf]; simp) (fun f _ _ D2 hp => hp), ?_, fun t u hu => ?_, fun j es' hj hL e' he' => ?_, hH.rel, hH.ext, hH.below, hH.defers⟩
  · rw [hL', Bool.or_eq_true, decide_eq_true_eq] at hL
    rcases hL with rfl | hL
    · rw [hD, ← he]; simp [idxs]
    · exact h.inD j hj hL
  · have := hH.tmps.length
    simp only [setDst_length, List.length_map, List.length_range] at this
    rw [Array.length_toList] at this
    exact this.symm
  · have hlt : t < T0.length := by
      have := hH.tmps.length
      simp only [setDst_length, List.length_map, List.length_range] at this
      have h2 := (Array.getElem?_eq_some_iff.1 hu).1
      have h3 : a'.tmps.toList.length = a'.tmps.size := rfl
      omega
    have key : look T0 D (Lof (listed.setIfInBounds i true)) t = (setDst ((List.range T0.length).map (look T0 D (Lof listed))) e.dst e.v).getD t .top := by
      rw [setDst_getD, TL_getD]
      simp only [List.length_map, List.length_range]
      by_cases hd : e.dst = some t
      · rw [if_pos ⟨hd, hlt⟩, hD, look_skip]
        · simp only [look]
          rw [if_pos ⟨by rw [hL', he]; simp, hd, hlt⟩]
        · intro f hf hfd
          rw [hL', later t hd f hf hfd]
          simp [hnin f hf]
      · rw [if_neg (fun hh => hd hh.1)]
        refine look_congr fun f hf hfd => ?_
        rw [hL']
        have hne : f.idx ≠ i := by
          rw [hD] at hf
          rcases List.mem_append.1 hf with hf | hf
          · exact hnin f hf
          · rcases List.mem_cons.1 hf with rfl | hf
            · exact absurd hfd hd
            · exact hnin2 f hf
        simp [hne]
    rw [key]
    have hl2 : t < (setDst ((List.range T0.length).map (look T0 D (Lof listed))) e.dst e.v).length := by simp only [setDst_length, List.length_map, List.length_range]; exact hlt
    obtain ⟨u', hu', hv⟩ := hH.tmps.get (i := t) (List.getElem?_eq_getElem hl2)
    rw [Array.getElem?_toList, hu] at hu'
    injection hu' with hu'; subst hu'
    simp only [List.getD, List.getElem?_eq_getElem hl2, Option.getD_some]
    exact hv
  · rw [hL', Bool.or_eq_true, decide_eq_true_eq] at hL
    rw [hL']
    rcases hL with rfl | hL
    · rw [hi] at hj; injection hj with hj; subst hj
      rw [hr e' he']; simp
    · rw [h.down j es' hj hL e' he']; simp

theorem xOne_quiet {o : AOper} {s : St} {v : AVal} {K : St → Prop} (hq : o.op.quiet = true) (hs : aStep s.T s.H o.op = some (v, s.H)) (hK : K ⟨setDst s.T o.dst v, s.H⟩) : xOne P o K s := by
  unfold xOne
  split
  · rename_i hh; rw [hh] at hq; cases hq
  · rw [hs]; exact hK

theorem wanted_of {o : AOper} {oR : Oper} {T : List AVal} {σ : Sig} {H : Heap} {a : Act} (hg : guardOk R o.guard oR.guard = true) (hT : VRs σ H T a.tmps.toList) : (o.guard = none → Region.wanted oR (yielded R a.tmps) = true) ∧
    (∀ d b g, o.guard = some (d, b) → T.getD d .top = .bool g → Region.wanted oR (yielded R a.tmps) = (g == b)) := by
  unfold guardOk at hg
  split at hg
  · rename_i g1 g2
    exact ⟨fun _ => by simp [Region.wanted, g2], fun d b g hh _ => by rw [g1] at hh; simp at hh⟩
  · rename_i d b j b' g1 g2
    simp only [Bool.and_eq_true, beq_iff_eq] at hg
    obtain ⟨rfl, hj⟩ := hg
    refine ⟨(fun hh => by rw [g1] at hh; simp at hh), fun d' b' g hh hgv => ?_⟩
    rw [g1] at hh; injection hh with hh; injection hh with e1 e2; subst e1; subst e2
    have : T[d]? = some (.bool g) := by
      cases ht : T[d]? with
      | none => simp [List.getD, ht] at hgv
      | some y => simp [List.getD, ht] at hgv; rw [hgv]
    obtain ⟨u, hu, hr⟩ := hT.get this
    simp only [VR] at hr
    subst hr
    rw [Array.getElem?_toList] at hu
    simp [Region.wanted, g2, yielded, hj, hu]
  · cases hg

/-- A ready one that has been walked is done in the program. -/
theorem Inv.exec (hops : opersOk P R ops R.toList = true) (hp : pairsOk ops (befs aft []) = true) (hb : backOk aft 0 = true) {listed : Array Bool} {D : List Ent} {rest : List Nat} {log : List Log} {s : St} {σ : Sig} {a : Act} {w : World}
    (h : Inv P ops aft T0 B σ0 H0 w0 K listed D rest log s σ a w) {i : Nat} {es : List Nat} {oR : Oper} (hi : aft[i]? = some es) (hoR : R[i]? = some oR) (hL : Lof listed i = false) (hr : ∀ e ∈ es, Lof listed e = true) (hin : i ∈ idxs D)
    {K' : Act → World → Prop} (hK' : ∀ σ' a' w', Inv P ops aft T0 B σ0 H0 w0 K (listed.setIfInBounds i true) D rest log s σ' a' w' → K' a' w') : wpOp P R Q i K' a w := by
  obtain ⟨e, heD, he⟩ := List.mem_map.1 hin
  obtain ⟨D1, D2, hD, q1, -⟩ := okD_split h.ok heD
  obtain ⟨-, hil, -, ⟨o, ho, hod⟩, -⟩ := q1
  have hpd := h.pend
  rw [hD] at hpd
  have hpend := (pendD_get hpd).resolve_left (by rw [he, hL]; simp)
  obtain ⟨Ti, o', ho', hTi, hcase⟩ := hpend
  rw [ho] at ho'; injection ho' with ho'; subst ho'
  rw [he] at ho hil
  have hok : operOk P R o oR = true := opersOk_get hops ho (by rw [Array.getElem?_toList]; exact hoR)
  have hvrs := h.vrs
  have hlk : ∀ t, t ∈ o.looks ∨ o.dst = some t → ((List.range T0.length).map (look T0 D (Lof listed))).getD t .top = Ti.getD t .top ∧ ∀ f ∈ D1, f.dst = some t → Lof listed f.idx = false := by
    intro t ht
    obtain ⟨g1, g2⟩ := (h.looks hp hb hi ho hL hr (D1 := D1) (D2 := D2) ht).1 e hD he
    rw [TL_getD, g1, hTi]
    exact ⟨rfl, g2⟩
  have hH : Holds B σ0 H0 w0 ⟨(List.range T0.length).map (look T0 D (Lof listed)), s.H⟩ σ a w := ⟨h.rel, hvrs, h.ext, h.below, h.defers⟩
  have later : ∀ t, e.dst = some t → ∀ f ∈ D1, f.dst = some t → Lof listed f.idx = false := fun t ht => (hlk t (.inr (by rw [hod]; exact ht))).2
  have hg : guardOk R o.guard oR.guard = true := by simp only [operOk, Bool.and_eq_true] at hok; exact hok.1.2
  have hdst : o.dst = oR.dst := by simp only [operOk, Bool.and_eq_true, beq_iff_eq] at hok; exact hok.1.1
  obtain ⟨wa, wb⟩ := wanted_of (oR := oR) hg hvrs
  unfold wpOp
  simp only [hoR]
  rcases hcase with ⟨hq, hgd, hst, -⟩ | ⟨d, b, g, hgd, hgv, hne, hev⟩
  · have hw : Region.wanted oR (yielded R a.tmps) = true := by
      cases hgo : o.guard with
      | none => exact wa hgo
      | some p =>
        obtain ⟨d, b⟩ := p
        have := (hlk d (.inl (by simp [AOper.looks, hgo]))).1
        rw [wb d b b hgo (by rw [this]; exact hgd d b hgo)]; simp
    rw [if_pos hw]
    have hag : Agree ((List.range T0.length).map (look T0 D (Lof listed))) Ti o.op.names := fun t ht => (hlk t (.inl (by simp [AOper.looks, ht]))).1
    refine .inl (wpOne_sound hok (K := fun s'' => s'' = ⟨setDst ((List.range T0.length).map (look T0 D (Lof listed))) o.dst e.v, s.H⟩) (xOne_quiet hq (by show aStep _ s.H o.op = _; rw [aStep_congr hag]; exact hst) rfl) hH ?_)
    rintro s'' σ' a' w' rfl hh
    refine hK' σ' a' w' (h.list hi hil hr hD he later ?_)
    rw [← hod]; exact hh
  · have hw : Region.wanted oR (yielded R a.tmps) = false := by
      have := (hlk d (.inl (by simp [AOper.looks, hgd]))).1
      rw [wb d b g hgd (by rw [this]; exact hgv)]; simpa using hne
    rw [if_neg (by rw [hw]; simp)]
    refine hK' σ _ w (h.list hi hil hr hD he later ?_)
    rw [← hdst, ← hod, hev]
    exact hH.put o.dst h.rel (by simp [VR]) (Ext.refl _ _) (Below.refl _ _)


/-- One operation asks of the temporaries what it looks at alone. -/
theorem xOne_congr {o : AOper} {s : St} {T : List AVal} {K : St → Prop} (ha : Agree T s.T o.op.names) (h : xOne P o K s) : xOne P o (fun s'' => ∃ v H', s'' = ⟨setDst T o.dst v, H'⟩ ∧ K ⟨setDst s.T o.dst v, H'⟩) ⟨T, s.H⟩ := by
  obtain ⟨dst, op, gd⟩ := o
  have go : ∀ {op : AOp}, Agree T s.T op.names → (match aStep s.T s.H op with | some (v, H') => K ⟨setDst s.T dst v, H'⟩ | none => False) →
      (match aStep T s.H op with | some (v, H') => ∃ v' H'', (⟨setDst T dst v, H'⟩ : St) = ⟨setDst T dst v', H''⟩ ∧ K ⟨setDst s.T dst v', H''⟩ | none => False) := by
    intro op ha h
    rw [aStep_congr ha]
    split at h
    · rename_i v H' hst; exact ⟨v, H', rfl, h⟩
    · exact h.elim
  cases op
  case call f args =>
    simp only [xOne] at h ⊢
    rw [Agree.args ha]
    exact h.mono fun v H' hk => ⟨v, H', rfl, hk⟩
  all_goals exact go ha h

/-- One that is not quiet, next in our order, is done in the program. -/
theorem Inv.loud (hops : opersOk P R ops R.toList = true) (hp : pairsOk ops (befs aft []) = true) (hb : backOk aft 0 = true) {listed : Array Bool} {D : List Ent} {i : Nat} {rest : List Nat} {log : List Log} {s : St} {σ : Sig} {a : Act} {w : World}
    (h : Inv P ops aft T0 B σ0 H0 w0 K listed D (i :: rest) log s σ a w) {es : List Nat} {oR : Oper} {o : AOper} (hi : aft[i]? = some es) (hoR : R[i]? = some oR) (ho : ops[i]? = some o) (hq : o.op.quiet = false) (hL : Lof listed i = false) (hr : ∀ e ∈ es, Lof listed e = true)
    {K' : Act → World → Prop} (hK' : ∀ v s' σ' a' w', Inv P ops aft T0 B σ0 H0 w0 K (listed.setIfInBounds i true) (⟨i, o.dst, v⟩ :: D) rest log s' σ' a' w' → K' a' w') : wpOp P R Q i K' a w := by
  obtain ⟨o1, o2, o3, -, o5⟩ := ordOk_cons h.ord
  have hok : operOk P R o oR = true := opersOk_get hops ho (by rw [Array.getElem?_toList]; exact hoR)
  have hvrs := h.vrs
  have hpre := pre_listed hb (fun i => Lof listed i = true) (fun i es h1 h2 => h.down i es h1 h2) i es hi hr
  have hlk : ∀ t, t ∈ o.looks ∨ o.dst = some t → ((List.range T0.length).map (look T0 D (Lof listed))).getD t .top = s.T.getD t .top := by
    intro t ht
    rw [TL_getD, (h.looks hp hb hi ho hL hr (D1 := []) (D2 := []) ht).2 o1, h.eager]
  have hH : Holds B σ0 H0 w0 ⟨(List.range T0.length).map (look T0 D (Lof listed)), s.H⟩ σ a w := ⟨h.rel, hvrs, h.ext, h.below, h.defers⟩
  have hg : guardOk R o.guard oR.guard = true := by simp only [operOk, Bool.and_eq_true] at hok; exact hok.1.2
  have hdst : o.dst = oR.dst := by simp only [operOk, Bool.and_eq_true, beq_iff_eq] at hok; exact hok.1.1
  obtain ⟨wa, wb⟩ := wanted_of (oR := oR) hg hvrs
  have hL' : ∀ j, Lof (listed.setIfInBounds i true) j = (decide (j = i) || Lof listed j) := by
    intro j
    unfold Lof
    by_cases hj : j = i
    · subst hj
      rw [Array.getD_eq_getD_getElem?, Array.getElem?_setIfInBounds_self]
      split <;> simp
    · rw [Array.getD_eq_getD_getElem?, Array.getElem?_setIfInBounds_ne (Ne.symm hj), ← Array.getD_eq_getD_getElem?]
      simp [hj]
  -- behind it
  have fin : ∀ (v : AVal) (H' : Heap) σ' a' w', xDrawn P ops (preOf (befs aft [])) rest log K ⟨setDst s.T o.dst v, H'⟩ → (∀ e ∈ D, Lof listed e.idx = false → ∀ D2, Pend ops T0 log s.H e D2 → Pend ops T0 log H' e D2) →
      Holds B σ0 H0 w0 ⟨setDst ((List.range T0.length).map (look T0 D (Lof listed))) o.dst v, H'⟩ σ' a' w' → K' a' w' := by
    intro v H' σ' a' w' hw hpd hh
    have hlen := hh.tmps.length
    simp only [setDst_length, List.length_map, List.length_range] at hlen
    refine hK' v ⟨setDst s.T o.dst v, H'⟩ σ' a' w' ⟨by simpa using h.size, fun j hj hLj => ?_, ⟨o1, o2, o3, ⟨o, ho, rfl⟩, h.ok⟩, o5, hw, fun t => ?_, by rw [setDst_length]; exact h.len, ⟨.inl (by rw [hL']; simp), ?_⟩, hlen.symm, fun t u hu => ?_, fun j es' hj hLj e' he' => ?_, hh.rel, hh.ext, hh.below, hh.defers⟩
    · rw [hL', Bool.or_eq_true, decide_eq_true_eq] at hLj
      rcases hLj with rfl | hLj
      · exact List.mem_cons_self
      · exact List.mem_cons_of_mem _ (h.inD j hj hLj)
    · simp only [look, true_and, setDst_getD, h.len, h.eager]
    · refine pendD_mono h.pend (fun e _ hLe => by rw [hL', hLe]; simp) (fun e he hLe D2 hpe => ?_)
      rw [hL', Bool.or_eq_false_iff] at hLe
      exact hpd e he hLe.2 D2 hpe
    · have hlt : t < T0.length := by
        have h2 := (Array.getElem?_eq_some_iff.1 hu).1
        have h3 : a'.tmps.toList.length = a'.tmps.size := rfl
        omega
      have key : look T0 (⟨i, o.dst, v⟩ :: D) (Lof (listed.setIfInBounds i true)) t = (setDst ((List.range T0.length).map (look T0 D (Lof listed))) o.dst v).getD t .top := by
        rw [setDst_getD, TL_getD]
        simp only [List.length_map, List.length_range, look]
        rw [hL']
        have : look T0 D (Lof (listed.setIfInBounds i true)) t = look T0 D (Lof listed) t := look_congr fun f hf _ => by
          rw [hL']
          have : f.idx ≠ i := fun heq => o1 (by rw [← heq]; exact List.mem_map_of_mem hf)
          simp [this]
        rw [this]
        simp
      rw [key]
      have hl2 : t < (setDst ((List.range T0.length).map (look T0 D (Lof listed))) o.dst v).length := by simp only [setDst_length, List.length_map, List.length_range]; exact hlt
      obtain ⟨u', hu', hv⟩ := hh.tmps.get (i := t) (List.getElem?_eq_getElem hl2)
      rw [Array.getElem?_toList, hu] at hu'
      injection hu' with hu'; subst hu'
      simp only [List.getD, List.getElem?_eq_getElem hl2, Option.getD_some]
      exact hv
    · rw [hL', Bool.or_eq_true, decide_eq_true_eq] at hLj
      rw [hL']
      rcases hLj with rfl | hLj
      · rw [hi] at hj; injection hj with hj; subst hj
        rw [hr e' he']; simp
      · rw [h.down j es' hj hLj e' he']; simp
  have run : xOne P o (fun s' => chk (preOf (befs aft []) i) s'.H log ∧ xDrawn P ops (preOf (befs aft [])) rest log K s') s → oR.wp P a w K' Q := by
    intro hx
    have hag : Agree ((List.range T0.length).map (look T0 D (Lof listed))) s.T o.op.names := fun t ht => hlk t (.inl (by simp [AOper.looks, ht]))
    refine wpOne_sound hok (xOne_congr hag hx) hH ?_
    rintro s'' σ' a' w' ⟨v, H', rfl, hchk, hwalk⟩ hh
    refine fin v H' σ' a' w' hwalk (fun e he hLe D2 hpe => ?_) hh
    obtain ⟨Ti, o', q1, q2, q3⟩ := hpe
    refine ⟨Ti, o', q1, q2, q3.imp (fun ⟨a1, a2, a3, a4⟩ => ⟨a1, a2, ?_, a4⟩) id⟩
    rcases chk_mem hchk a4 with hc | hc
    · exfalso
      have := hpre e.idx hc
      rw [hLe] at this; cases this
    · exact hc
  have hw := h.walk
  simp only [xDrawn, ho] at hw
  unfold wpOp
  simp only [hoR]
  split at hw
  · rename_i hgd
    rw [if_neg (by rw [hq]; simp)] at hw
    rw [if_pos (wa hgd)]
    exact .inl (run hw)
  · rename_i d b hgd
    split at hw
    case h_2 => exact hw.elim
    rename_i g hgv
    simp only [aget] at hgv
    obtain ⟨w1, w2⟩ := hw
    have hwt := wb d b g hgd (by rw [hlk d (.inl (by simp [AOper.looks, hgd]))]; exact hgv)
    by_cases hgb : g = b
    · have := w1 hgb
      rw [if_neg (by rw [hq]; simp)] at this
      rw [if_pos (by rw [hwt]; simpa using hgb)]
      exact .inl (run this)
    · rw [if_neg (by rw [hwt]; simpa using hgb)]
      refine fin .top s.H σ _ w (w2 hgb) (fun e he hLe D2 hpe => hpe) ?_
      rw [← hdst]
      exact hH.put o.dst h.rel (by simp [VR]) (Ext.refl _ _) (Below.refl _ _)

/-- Walk on till one has been walked. -/
theorem Inv.reach {i : Nat} : ∀ {rest : List Nat} {listed : Array Bool} {D : List Ent} {log : List Log} {s : St} {σ : Sig} {a : Act} {w : World}, Inv P ops aft T0 B σ0 H0 w0 K listed D rest log s σ a w → i < ops.length →
    (∀ j, preOf (befs aft []) i j = true → Lof listed j = true) → i ∉ idxs D →
    (∃ D' rest' log' s', Inv P ops aft T0 B σ0 H0 w0 K listed D' rest' log' s' σ a w ∧ i ∈ idxs D') ∨ (∃ D' rest' log' s' o, Inv P ops aft T0 B σ0 H0 w0 K listed D' (i :: rest') log' s' σ a w ∧ ops[i]? = some o ∧ o.op.quiet = false)
  | [], listed, D, log, s, σ, a, w, h, hi, _, hni => by
    exfalso
    have := h.ord
    simp only [ordOk] at this
    have := (List.all_eq_true.1 this) i (List.mem_range.2 hi)
    exact hni (by simpa using this)
  | r :: rest, listed, D, log, s, σ, a, w, h, hi, hpre, hni => by
    obtain ⟨o1, o2, o3, ⟨o, ho, hq⟩, o5⟩ := ordOk_cons h.ord
    by_cases hri : r = i
    · subst hri
      cases hqq : o.op.quiet with
      | false => exact .inr ⟨D, rest, log, s, o, h, ho, hqq⟩
      | true =>
        obtain ⟨v, log', s', h'⟩ := h.adv ho hqq
        exact .inl ⟨_, _, _, _, h', by simp [idxs]⟩
    · have hin : i ∈ rest := by
        have : ∀ (l : List Nat) (done : List Nat), ordOk ops (befs aft []) l done = true → i ∈ l ∨ i ∈ done := by
          intro l
          induction l with
          | nil =>
            intro done hd
            simp only [ordOk] at hd
            have := (List.all_eq_true.1 hd) i (List.mem_range.2 hi)
            exact .inr (by simpa using this)
          | cons x l ih =>
            intro done hd
            obtain ⟨-, -, -, -, hd'⟩ := ordOk_cons hd
            rcases ih _ hd' with hh | hh
            · exact .inl (List.mem_cons_of_mem _ hh)
            · rcases List.mem_cons.1 hh with rfl | hh
              · exact .inl List.mem_cons_self
              · exact .inr hh
        rcases this _ _ o5 with hh | hh
        · exact hh
        · rcases List.mem_cons.1 hh with hh | hh
          · exact absurd hh.symm hri
          · exact absurd hh hni
      rcases hq with hq | hq
      · obtain ⟨v, log', s', h'⟩ := h.adv ho hq
        exact Inv.reach h' hi hpre (by simp only [idxs, List.map_cons, List.mem_cons, not_or]; exact ⟨Ne.symm hri, hni⟩)
      · exfalso
        have := hpre r (hq i hin)
        exact o1 (h.inD r o2 this)

/-- Whatever order is drawn. -/
theorem Inv.any (hops : opersOk P R ops R.toList = true) (haft : aftOk aft R.toList = true) (hal : aft.length = ops.length) (hp : pairsOk ops (befs aft []) = true) (hb : backOk aft 0 = true) (hQ : ∀ s σ a w, K s → Holds B σ0 H0 w0 s σ a w → Q .normal a w) :
    ∀ (fuel : Nat) (u : List Nat) (listed : Array Bool) (D : List Ent) (rest : List Nat) (log : List Log) (s : St) (σ : Sig) (a : Act) (w : World), u.length ≤ fuel → (∀ i, i < ops.length → Lof listed i = false → i ∈ u) →
      Inv P ops aft T0 B σ0 H0 w0 K listed D rest log s σ a w → wpAny P .any R Q fuel listed a w := by
  have hlen : R.size = ops.length := by rw [opersOk_length hops]; rfl
  -- who is ready
  have hready : ∀ {listed : Array Bool} {i : Nat}, listed.size = ops.length → i ∈ Region.ready .any R listed → ∃ oR es, R[i]? = some oR ∧ aft[i]? = some es ∧ Lof listed i = false ∧ (∀ e ∈ es, Lof listed e = true) := by
    intro listed i hsz hi
    obtain ⟨h1, oR, h2, h3⟩ := mem_ready.1 hi
    refine ⟨oR, _, h2, aftOk_get haft (by rw [Array.getElem?_toList]; exact h2), h1, fun e he => ?_⟩
    obtain ⟨ed, hed, rfl⟩ := List.mem_map.1 he
    rw [List.mem_filter] at hed
    have := h3 ed (by rw [← Array.mem_toList_iff]; exact hed.1) hed.2
    unfold Lof
    rw [Array.getD_eq_getD_getElem?] at this ⊢
    cases hh : listed[ed.on]? with
    | none => simp
    | some b => rw [hh] at this; simpa using this
  -- nobody is ready: all have been
  have hdone : ∀ {listed : Array Bool}, listed.size = ops.length → Region.ready .any R listed = [] → ∀ i, i < ops.length → Lof listed i = true := by
    intro listed hsz hnil i
    have hback : ∀ (l : List (List Nat)) (k : Nat), backOk l k = true → ∀ i es, l[i]? = some es → ∀ e ∈ es, e < k + i := by
      intro l
      induction l with
      | nil => intro k _ i es h; simp at h
      | cons es0 l ih =>
        intro k hk i es h e he
        simp only [backOk, Bool.and_eq_true] at hk
        cases i with
        | zero => simp only [List.getElem?_cons_zero, Option.some.injEq] at h; subst h; simpa using (List.all_eq_true.1 hk.1) e he
        | succ i => have := ih (k + 1) hk.2 i es (by simpa using h) e he; omega
    induction i using Nat.strongRecOn with
    | _ i ih =>
      intro hi
      cases hL : Lof listed i with
      | true => rfl
      | false =>
        exfalso
        have hiR : i < R.size := by omega
        have hmem : i ∈ Region.ready .any R listed := by
          rw [mem_ready]
          refine ⟨hL, R[i], Array.getElem?_eq_getElem hiR, fun e he hbd => ?_⟩
          have hes := aftOk_get haft (i := i) (o := R[i]) (by rw [Array.getElem?_toList]; exact Array.getElem?_eq_getElem hiR)
          have hlt := hback aft 0 hb i _ hes e.on (List.mem_map_of_mem (List.mem_filter.2 ⟨Array.mem_toList_iff.2 he, hbd⟩))
          have := ih e.on (by omega) (by omega)
          unfold Lof at this
          have hin : e.on < listed.size := by omega
          rw [Array.getD_eq_getD_getElem?, Array.getElem?_eq_getElem hin] at this ⊢
          simpa using this
        rw [hnil] at hmem; cases hmem
  have hend : ∀ {listed : Array Bool} {D : List Ent} {rest : List Nat} {log : List Log} {s : St} {σ : Sig} {a : Act} {w : World}, Inv P ops aft T0 B σ0 H0 w0 K listed D rest log s σ a w → Region.ready .any R listed = [] → Q .normal a w := by
    intro listed D rest log s σ a w h hnil
    have hall := hdone h.size hnil
    have hrest : rest = [] := by
      cases rest with
      | nil => rfl
      | cons r rest =>
        obtain ⟨o1, o2, -⟩ := ordOk_cons h.ord
        exact absurd (h.inD r o2 (hall r o2)) o1
    subst hrest
    have hw : K s := h.walk
    refine hQ s σ a w hw ⟨h.rel, ?_, h.ext, h.below, h.defers⟩
    rw [VRs_iff]
    refine ⟨by rw [h.len, ← h.tlen]; rfl, fun i hi hi' => ?_⟩
    have := h.conc i a.tmps.toList[i] (by rw [← Array.getElem?_toList]; exact List.getElem?_eq_getElem hi')
    have e1 : look T0 D (Lof listed) i = look T0 D (fun _ => true) i := look_congr fun f hf _ => by
      obtain ⟨E1, E2, rfl, q1, -⟩ := okD_split h.ok hf
      exact hall f.idx q1.2.1
    rw [e1, ← h.eager i] at this
    simpa [List.getD, List.getElem?_eq_getElem hi] using this
  intro fuel
  induction fuel with
  | zero =>
    intro u listed D rest log s σ a w hu hun h
    have hu0 : u = [] := List.eq_nil_of_length_eq_zero (by omega)
    subst hu0
    have hnil : Region.ready .any R listed = [] := by
      cases hr : Region.ready .any R listed with
      | nil => rfl
      | cons i l =>
        exfalso
        obtain ⟨oR, es, h1, h2, h3, h4⟩ := hready h.size (i := i) (by rw [hr]; exact List.mem_cons_self)
        have hi : i < ops.length := by have := (Array.getElem?_eq_some_iff.1 h1).1; omega
        have := hun i hi h3
        cases this
    exact ⟨hnil, hend h hnil⟩
  | succ fuel ih =>
    intro u listed D rest log s σ a w hu hun h
    refine ⟨fun hnil => hend h hnil, fun i hi => ?_⟩
    obtain ⟨oR, es, h1, h2, h3, h4⟩ := hready h.size hi
    have hil : i < ops.length := by have := (Array.getElem?_eq_some_iff.1 h1).1; omega
    have hiu := hun i hil h3
    have hpre := pre_listed hb (fun i => Lof listed i = true) (fun i es h1 h2 => h.down i es h1 h2) i es h2 h4
    have hL' : ∀ j, Lof (listed.setIfInBounds i true) j = (decide (j = i) || Lof listed j) := by
      intro j
      unfold Lof
      by_cases hj : j = i
      · subst hj
        rw [Array.getD_eq_getD_getElem?, Array.getElem?_setIfInBounds_self]
        split <;> simp
      · rw [Array.getD_eq_getD_getElem?, Array.getElem?_setIfInBounds_ne (Ne.symm hj), ← Array.getD_eq_getD_getElem?]
        simp [hj]
    have hu' : (u.erase i).length ≤ fuel := by rw [List.length_erase_of_mem hiu]; omega
    have hun' : ∀ j, j < ops.length → Lof (listed.setIfInBounds i true) j = false → j ∈ u.erase i := by
      intro j hj hLj
      rw [hL', Bool.or_eq_false_iff, decide_eq_false_iff_not] at hLj
      exact (List.mem_erase_of_ne hLj.1).2 (hun j hj hLj.2)
    have walked : ∀ {D : List Ent} {rest : List Nat} {log : List Log} {s : St}, Inv P ops aft T0 B σ0 H0 w0 K listed D rest log s σ a w → i ∈ idxs D → wpOp P R Q i (wpAny P .any R Q fuel (listed.setIfInBounds i true)) a w :=
      fun h hin => h.exec hops hp hb h2 h1 h3 h4 hin fun σ' a' w' h' => ih (u.erase i) _ _ _ _ _ σ' a' w' hu' hun' h'
    by_cases hin : i ∈ idxs D
    · exact walked h hin
    · rcases h.reach hil hpre hin with ⟨D', rest', log', s', h', hin'⟩ | ⟨D', rest', log', s', o, h', ho, hq⟩
      · exact walked h' hin'
      · exact h'.loud hops hp hb h2 h1 ho hq h3 h4 fun v s'' σ' a' w' h'' => ih (u.erase i) _ _ _ _ _ σ' a' w' hu' hun' h''

end drawn

theorem drawn_sound {P : Program} {ops : List AOper} {aft : List (List Nat)} {ord : List Nat} {id : Nat} {R : Array Oper} (h1 : opersOk P R ops R.toList = true) (h2 : aftOk aft R.toList = true) (h3 : drawnOk P ops aft ord = true) {K : St → Prop} {s : St}
    (h : xDrawn P ops (preOf (befs aft [])) ord [] K s) {B : Nat} {σ0 : Sig} {H0 : Heap} {w0 : World} {σ : Sig} {a : Act} {w : World} (hH : Holds B σ0 H0 w0 s σ a w) {Q : Exit → Act → World → Prop}
    (hQ : ∀ s σ a w, K s → Holds B σ0 H0 w0 s σ a w → Q .normal a w) : (Code.region id R true).wp P Q a w := by
  simp only [drawnOk, Bool.and_eq_true, beq_iff_eq] at h3
  obtain ⟨⟨⟨⟨hm, hal⟩, hb⟩, hp⟩, ho⟩ := h3
  have hlen : R.size = ops.length := by rw [opersOk_length h1]; rfl
  refine wp_region_any hm ?_
  have hlist : ∀ i, i < ops.length → Lof (Array.replicate R.size false) i = false := by
    intro i hi
    unfold Lof
    rw [Array.getD_eq_getD_getElem?, Array.getElem?_replicate, if_pos (by omega)]; rfl
  have hback : ∀ (l : List (List Nat)) (k : Nat), backOk l k = true → ∀ i es, l[i]? = some es → ∀ e ∈ es, e < k + i := by
    intro l
    induction l with
    | nil => intro k _ i es h; simp at h
    | cons es0 l ih =>
      intro k hk i es h e he
      simp only [backOk, Bool.and_eq_true] at hk
      cases i with
      | zero => simp only [List.getElem?_cons_zero, Option.some.injEq] at h; subst h; simpa using (List.all_eq_true.1 hk.1) e he
      | succ i => have := ih (k + 1) hk.2 i es (by simpa using h) e he; omega
  refine Inv.any (T0 := s.T) (K := K) h1 h2 hal hp hb hQ R.size (List.range ops.length) _ [] ord [] s σ a _ (by simp [hlen]) (fun i hi _ => List.mem_range.2 hi) ?_
  refine ⟨by simp [hlen], fun i hi hL => (by rw [hlist i hi] at hL; cases hL), trivial, ho, h, fun t => rfl, rfl, trivial, ?_, fun t u hu => ?_, fun i es hi hL e he => ?_, hH.rel.drew, hH.ext, hH.below.drew, hH.defers⟩
  · rw [hH.tmps.length]; rfl
  · have hl : t < s.T.length := by
      rw [hH.tmps.length]
      exact (Array.getElem?_eq_some_iff.1 hu).1
    obtain ⟨u', hu', hv⟩ := hH.tmps.get (i := t) (List.getElem?_eq_getElem hl)
    rw [Array.getElem?_toList, hu] at hu'
    injection hu' with hu'; subst hu'
    simp only [look, List.getD, List.getElem?_eq_getElem hl, Option.getD_some]
    exact hv
  · exfalso
    have : i < ops.length := by rw [← hal]; exact (List.getElem?_eq_some_iff.1 hi).1
    rw [hlist i this] at hL; cases hL

end Go.Ax
