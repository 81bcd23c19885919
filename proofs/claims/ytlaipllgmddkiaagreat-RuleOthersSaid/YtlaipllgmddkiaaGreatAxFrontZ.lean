/- What may be done ahead of others is moved to the front of our walk; what is born is laid into a place that was kept free. Conditions: none. -/
import Derived.Test.YtlaipllgmddkiaaGreatAxSwapZ
set_option linter.all false
namespace Go.Ax
open Go Go.RowKit
theorem setDst_getD (T : List AVal) (dst : Option Nat) (v : AVal) (t : Nat) : (setDst T dst v).getD t .top = if dst = some t ∧ t < T.length then v else T.getD t .top := by
 cases dst with
 | none => simp [setDst]
 | some d =>
  simp only [setDst, List.getD, Option.some.injEq]
  by_cases h : d = t
  ·subst h
   by_cases hl : d < T.length
   ·simp [hl]
   ·simp [hl]
  ·rw [List.getElem?_set_ne h, if_neg (by simp [h])]
theorem setDst_length (T : List AVal) (dst : Option Nat) (v : AVal) : (setDst T dst v).length = T.length := by cases dst <;> simp [setDst]
structure Free (k0 : Option Nat) (T : List AVal) (H : Heap) : Prop where
 ghost : ∀ k, k0 = some k → H[k]? = some .ghost
 tmps : ∀ k, k0 = some k → ∀ t, (T.getD t .top).refs (· ≠ k)
 heap : ∀ k, k0 = some k → HRefs (· ≠ k) H
def fillX : Option (Nat × AObj) → Heap → Heap
 | none, H => H
 | some (k, x), H => H.set k x
theorem Free.step {k0 : Option Nat} {T : List AVal} {H H1 : Heap} (h : Free k0 T H) (dst : Option Nat) {v : AVal} (hn : ∀ k, k0 = some k → H1[k]? = some .ghost ∧ v.refs (· ≠ k) ∧ HRefs (· ≠ k) H1) : Free k0 (setDst T dst v) H1 :=
 ⟨fun k e => (hn k e).1, fun k e t => by
  rw [setDst_getD]
  split
  ·exact (hn k e).2.1
  ·exact h.tmps k e t, fun k e => (hn k e).2.2⟩
theorem agree_of {T T' : List AVal} {o : AOper} (hag : ∀ t ∈ o.looks, T'.getD t .top = T.getD t .top) : Agree T' T o.op.names := fun t ht => hag t (by simp [AOper.looks, ht])
section over
variable {P : Program} {n0 : Nat} {pre : Nat → Bool} {i : Nat} {o : AOper} {k0 : Option Nat} {x : Option (Nat × AObj)} {T T' : List AVal} {H : Heap}
theorem aStep_over (hx : ∀ k y, x = some (k, y) → k0 = some k ∧ y.isNew = true) (hcst : o.op.cst = true) (hag : ∀ t ∈ o.looks, T'.getD t .top = T.getD t .top) (hF : Free k0 T H) {v : AVal} {H1 : Heap} (h : aStep T H o.op = some (v, H1)) :
 aStep T' (fillX x H) o.op = some (v, fillX x H1) ∧ Free k0 (setDst T o.dst v) H1 := by
 constructor
 ·rw [aStep_congr (agree_of hag)]
  cases x with
  | none => exact h
  | some q => obtain ⟨k, y⟩ := q; exact (aStep_fill (hF.ghost k (hx k y rfl).1) h).1
 ·refine hF.step o.dst fun k e => ?_
  have hk := hF.ghost k e
  have hl := (List.getElem?_eq_some_iff.1 hk).1
  obtain ⟨g1, g2⟩ := aStep_refs (p := (· ≠ k)) (hF.tmps k e) (hF.heap k e) (by omega) hcst h
  exact ⟨(aStep_fill (x := .ghost) hk h).2, g1, g2⟩
theorem calls_over (hx : ∀ k y, x = some (k, y) → k0 = some k ∧ y.isNew = true) (hF : Free k0 T H) {f : FuncId} {args : List AVal} (ha : ∀ k, k0 = some k → refsL (· ≠ k) args) {dst : Option Nat} {K K' : AVal → Heap → Prop}
 (hK : ∀ v H1, K v H1 → Free k0 (setDst T dst v) H1 → K' v (fillX x H1)) (h : ACalls P f args H K) : ACalls P f args (fillX x H) K' := by
 have hfree : ∀ {v : AVal} {H' : Heap}, (∀ k : Nat, H[k]? = some .ghost → H'[k]? = some .ghost ∧ v.refs (· ≠ k) ∧ HRefs (· ≠ k) H') → Free k0 (setDst T dst v) H' := fun hi => hF.step dst fun k e => hi k (hF.ghost k e)
 cases x with
 | none => exact h.info.mono fun v H' ⟨hk, hi⟩ => hK v H' hk (hfree hi)
 | some q =>
  obtain ⟨k, y⟩ := q
  obtain ⟨e, hn⟩ := hx k y rfl
  exact (ACalls.frame (hF.ghost k e) hn (ha k e) (hF.heap k e) h.info).mono fun v H'' ⟨H', ⟨hk, hi⟩, e'⟩ => by subst e'; exact hK v H' hk (hfree hi)
theorem xOne_over (hx : ∀ k y, x = some (k, y) → k0 = some k ∧ y.isNew = true) (hcst : o.op.cst = true) (hag : ∀ t ∈ o.looks, T'.getD t .top = T.getD t .top) (hF : Free k0 T H) {K K' : St → Prop}
 (hK : ∀ v H1, K ⟨setDst T o.dst v, H1⟩ → Free k0 (setDst T o.dst v) H1 → K' ⟨setDst T' o.dst v, fillX x H1⟩) (h : xOne P o K ⟨T, H⟩) : xOne P o K' ⟨T', fillX x H⟩ := by
 have hA := agree_of hag
 unfold xOne at h ⊢
 split at h
 ·rename_i f args hop
  rw [hop] at hA hcst
  simp only [Agree.args hA]
  refine calls_over hx hF (fun k e => ?_) (fun v H1 hk hf => hK v H1 hk hf) h
  exact agets_refs (hF.tmps k e) hcst
 ·rename_i y args hop
  rw [hop] at hA hcst
  simp only [AOp.cst, Bool.and_eq_true] at hcst
  simp only [hA.left.arg, Agree.args hA.right]
  split at h
  case h_2 => exact h.elim
  rename_i f cap hy
  simp only [hy]
  refine ⟨h.1, calls_over hx hF (fun k e => ?_) (fun v H1 hk hf => hK v H1 hk hf) h.2⟩
  have hc := aget_refs (hF.tmps k e) hcst.1
  rw [hy] at hc; simp only [AVal.refs] at hc
  exact refsL_append (agets_refs (hF.tmps k e) hcst.2) hc
 ·split at h
  case h_2 => exact h.elim
  rename_i v H1 hs
  obtain ⟨g1, g2⟩ := aStep_over hx hcst hag hF hs
  rw [g1]
  exact hK v H1 h g2
theorem actD_over (hx : ∀ k y, x = some (k, y) → k0 = some k ∧ y.isNew = true) (hcst : o.op.cst = true) (hb : ∀ j b, o.op = .born j b → k0 ≠ some (n0 + j)) (hag : ∀ t ∈ o.looks, T'.getD t .top = T.getD t .top) (hF : Free k0 T H)
 {log log' : PLog} (hl : LogLe log' log) (hst : LogSt log) {C C' : PLog → St → Prop}
 (hC : ∀ v H1 l1 l1', C l1 ⟨setDst T o.dst v, H1⟩ → LogLe l1' l1 → LogSt l1 → Free k0 (setDst T o.dst v) H1 → C' l1' ⟨setDst T' o.dst v, fillX x H1⟩) (h : actD P n0 pre i o log C ⟨T, H⟩) : actD P n0 pre i o log' C' ⟨T', fillX x H⟩ := by
 unfold actD at h ⊢
 split at h
 ·rename_i j b hop
  have hA := agree_of hag
  rw [hop] at hA
  have hne := hb j b hop
  simp only [bornStep_congr hA]
  split at h
  case h_2 => exact h.elim
  rename_i v y hbs
  simp only [hbs]
  have hfree : Free k0 (setDst T o.dst v) (H.set (n0 + j) y) := by
   refine hF.step o.dst fun k e => ?_
   have hk := hF.ghost k e
   have hkn : n0 + j ≠ k := fun e' => hne (by rw [e, e'])
   rw [hop] at hcst
   obtain ⟨g1, g2⟩ := born_refs (p := (· ≠ k)) (hF.tmps k e) hkn hcst hbs
   exact ⟨by rw [List.getElem?_set_ne hkn]; exact hk, g1, (hF.heap k e).set g2⟩
  have := hC v _ log log' h hl hst hfree
  have e2 : fillX x (H.set (n0 + j) y) = (fillX x H).set (n0 + j) y := by
   cases x with
   | none => rfl
   | some q =>
    obtain ⟨k, z⟩ := q
    have hkn : n0 + j ≠ k := fun e' => hne (by rw [(hx k z rfl).1, e'])
    exact List.set_comm _ _ hkn
  rw [e2] at this
  exact this
 ·rename_i hnb
  split at h
  ·rename_i hq
   rw [if_pos hq]
   split at h
   case h_2 => exact h.elim
   rename_i v H1 hs
   have e := quiet_heap hq hs
   subst e
   obtain ⟨g1, g2⟩ := aStep_over hx hcst hag hF hs
   simp only [g1]
   refine hC v _ _ _ h ?_ ?_ g2
   ·split
    ·exact hl
    ·exact hl.cons i fun G hG => by rw [aStep_congr (agree_of hag)]; exact hG
   ·split
    ·exact hst
    ·exact hst.step i T o.op v
  ·rename_i hq
   rw [if_neg hq]
   refine xOne_over hx hcst hag hF (fun v H1 hk hf => ⟨?_, hC v H1 _ _ hk.2 hl hst hf⟩) h
   refine chkS_le hl ?_
   cases x with
   | none => exact hk.1
   | some q => obtain ⟨k, z⟩ := q; exact chkS_fill hst (hf.ghost k (hx k z rfl).1) z hk.1
theorem stepD_over (hx : ∀ k y, x = some (k, y) → k0 = some k ∧ y.isNew = true) (hcst : o.op.cst = true) (hb : ∀ j b, o.op = .born j b → k0 ≠ some (n0 + j)) (hag : ∀ t ∈ o.looks, T'.getD t .top = T.getD t .top) (hF : Free k0 T H)
 {log log' : PLog} (hl : LogLe log' log) (hst : LogSt log) {C C' : PLog → St → Prop}
 (hC : ∀ v H1 l1 l1', C l1 ⟨setDst T o.dst v, H1⟩ → LogLe l1' l1 → LogSt l1 → Free k0 (setDst T o.dst v) H1 → C' l1' ⟨setDst T' o.dst v, fillX x H1⟩) (h : stepD P n0 pre i o log C ⟨T, H⟩) : stepD P n0 pre i o log' C' ⟨T', fillX x H⟩ := by
 unfold stepD at h ⊢
 split at h
 ·exact actD_over hx hcst hb hag hF hl hst hC h
 ·rename_i d b hg
  have hd : T'.getD d .top = T.getD d .top := hag d (by simp [AOper.looks, hg])
  simp only [aget] at h ⊢
  rw [hd]
  split at h
  case h_2 => exact h.elim
  refine ⟨fun e => actD_over hx hcst hb hag hF hl hst hC (h.1 e), fun e => hC _ _ _ _ (h.2 e) hl hst ?_⟩
  exact hF.step o.dst fun k e => ⟨hF.ghost k e, by simp [skipV, AVal.refs, refsL], hF.heap k e⟩
end over
def guardVal (o : AOper) (T : List AVal) : Option Bool :=
 match o.guard with
 | none => some true
 | some (d, b) => match gof (aget T (.t d)) with
  | some g => some (g == some b)
  | none => none
def effA (n0 : Nat) (o : AOper) (T : List AVal) : Option (AVal × Option (Nat × AObj)) :=
 match o.op with
 | .born j b => (bornStep T (n0 + j) b).map fun q => (q.1, some (n0 + j, q.2))
 | op => (aStep T [] op).map fun q => (q.1, none)
def eff (n0 : Nat) (o : AOper) (T : List AVal) : Option (AVal × Option (Nat × AObj)) :=
 match guardVal o T with
 | none => none
 | some false => some (skipV, none)
 | some true => effA n0 o T
theorem effA_nb {n0 : Nat} {o : AOper} {T : List AVal} (h : ∀ j b, o.op ≠ .born j b) : effA n0 o T = (aStep T [] o.op).map fun q => (q.1, none) := by
 unfold effA
 split
 ·rename_i j b hop; exact absurd hop (h j b)
 ·rfl
theorem actD_nb {P : Program} {n0 : Nat} {pre : Nat → Bool} {i : Nat} {o : AOper} {log : PLog} {C : PLog → St → Prop} {s : St} (h : ∀ j b, o.op ≠ .born j b) : actD P n0 pre i o log C s = (if o.op.quiet then (match aStep s.T s.H o.op with
 | some (v, _) => C (if o.op.pure then log else (i, fun H => aStep s.T H o.op = some (v, H)) :: log) ⟨setDst s.T o.dst v, s.H⟩
 | none => False)
 else xOne P o (fun s' => chkS pre s'.H log ∧ C log s') s) := by
 unfold actD
 split
 ·rename_i j b hop; exact absurd hop (h j b)
 ·rfl
theorem mov_cases {o : AOper} (hm : o.op.mov = true) : (∃ j b, o.op = .born j b) ∨ ((∀ j b, o.op ≠ .born j b) ∧ o.op.pure = true) := by
 unfold AOp.mov at hm
 split at hm
 ·rename_i k b hop; exact .inl ⟨k, b, hop⟩
 ·rename_i hnb; exact .inr ⟨fun j b e => hnb j b e, hm⟩
theorem actD_mov {P : Program} {n0 : Nat} {pre : Nat → Bool} {i : Nat} {o : AOper} (hm : o.op.mov = true) {log : PLog} {C : PLog → St → Prop} {s : St} : actD P n0 pre i o log C s ↔
 ∃ v x, effA n0 o s.T = some (v, x) ∧ C log ⟨setDst s.T o.dst v, fillX x s.H⟩ := by
 rcases mov_cases hm with ⟨j, b, hop⟩ | ⟨hnb, hp⟩
 ·simp only [actD, effA, hop]
  cases hb : bornStep s.T (n0 + j) b with
  | none => simp
  | some q =>
   obtain ⟨v, y⟩ := q
   simp only [Option.map_some, Option.some.injEq, Prod.mk.injEq]
   constructor
   ·intro h; exact ⟨v, _, ⟨rfl, rfl⟩, h⟩
   ·rintro ⟨_, _, ⟨rfl, rfl⟩, h⟩; exact h
 ·rw [actD_nb hnb, effA_nb hnb, if_pos (pure_quiet hp)]
  have e := pure_eq (T := s.T) (H := []) (H2 := s.H) hp
  cases hs : aStep s.T [] o.op with
  | none => rw [hs] at e; simp [e]
  | some q =>
   obtain ⟨v, H1⟩ := q
   rw [hs] at e
   simp only [Option.map_some] at e
   rw [e]
   simp only [Option.map_some, Option.some.injEq, Prod.mk.injEq, hp, if_true]
   constructor
   ·intro h; exact ⟨v, _, ⟨rfl, rfl⟩, h⟩
   ·rintro ⟨_, _, ⟨rfl, rfl⟩, h⟩; exact h
theorem stepD_mov {P : Program} {n0 : Nat} {pre : Nat → Bool} {i : Nat} {o : AOper} (hm : o.op.mov = true) {log : PLog} {C : PLog → St → Prop} {s : St} : stepD P n0 pre i o log C s ↔
 ∃ v x, eff n0 o s.T = some (v, x) ∧ C log ⟨setDst s.T o.dst v, fillX x s.H⟩ := by
 cases hgd : o.guard with
 | none => simp only [stepD, eff, guardVal, hgd, actD_mov hm]
 | some q =>
  obtain ⟨d, b⟩ := q
  simp only [stepD, eff, guardVal, hgd]
  cases hgv : gof (aget s.T (.t d)) with
  | some g =>
   by_cases hgb : g = some b
   ·subst hgb
    simp only [true_implies, ne_eq, not_true_eq_false, false_implies, and_true, beq_self_eq_true, actD_mov hm]
   ·have : (g == some b) = false := by simpa using hgb
    simp only [hgb, false_implies, true_and, ne_eq, not_false_eq_true, true_implies, this, Option.some.injEq, Prod.mk.injEq]
    constructor
    ·intro h; exact ⟨_, _, ⟨rfl, rfl⟩, h⟩
    ·rintro ⟨_, _, ⟨rfl, rfl⟩, h⟩; exact h
  | none => simp
theorem eff_congr {n0 : Nat} {o : AOper} {T T' : List AVal} (hag : ∀ t ∈ o.looks, T'.getD t .top = T.getD t .top) : eff n0 o T' = eff n0 o T := by
 have hA := agree_of hag
 have hg : guardVal o T' = guardVal o T := by
  unfold guardVal
  split
  ·rfl
  ·rename_i d b hg
   simp only [aget, hag d (by simp [AOper.looks, hg])]
 unfold eff
 rw [hg]
 split
 ·rfl
 ·rfl
 ·by_cases hb : ∃ j b, o.op = .born j b
  ·obtain ⟨j, b, hop⟩ := hb
   rw [hop] at hA
   simp only [effA, hop, bornStep_congr hA]
  ·have hnb : ∀ j b, o.op ≠ .born j b := fun j b e => hb ⟨j, b, e⟩
   rw [effA_nb hnb, effA_nb hnb, aStep_congr hA]
def Indep (a b : AOper) : Prop := (∀ t, a.dst = some t → t ∉ b.looks ∧ b.dst ≠ some t) ∧ (∀ t, b.dst = some t → t ∉ a.looks)
theorem setDst_comm {T : List AVal} {a b : Option Nat} (h : ∀ t, a = some t → b ≠ some t) (u v : AVal) : setDst (setDst T a u) b v = setDst (setDst T b v) a u := by
 cases a with
 | none => rfl
 | some d => cases b with
  | none => rfl
  | some e =>
   have : d ≠ e := fun hh => h d rfl (by rw [hh])
   exact List.set_comm _ _ this
def slotOf (n0 : Nat) (o : AOper) : Option Nat := match o.op with
 | .born j _ => some (n0 + j)
 | _ => none
theorem born_new {T : List AVal} {k : Nat} {b : ABirth} {v : AVal} {x : AObj} (h : bornStep T k b = some (v, x)) : x.isNew = true := by
 cases b <;> simp only [bornStep] at h
 case new => simp only [Option.some.injEq, Prod.mk.injEq] at h; obtain ⟨-, rfl⟩ := h; rfl
 case box => simp only [Option.map_eq_some_iff, Prod.mk.injEq] at h; obtain ⟨_, _, -, rfl⟩ := h; rfl
 case bsl => simp only [Option.map_eq_some_iff, Prod.mk.injEq] at h; obtain ⟨_, _, -, rfl⟩ := h; rfl
 case mks =>
  split at h
  case h_2 => cases h
  split at h
  case isFalse => cases h
  simp only [Option.some.injEq, Prod.mk.injEq] at h; obtain ⟨-, rfl⟩ := h; rfl
 case mkm => simp only [Option.some.injEq, Prod.mk.injEq] at h; obtain ⟨-, rfl⟩ := h; rfl
theorem eff_slot {n0 : Nat} {o : AOper} (hm : o.op.mov = true) {T : List AVal} {v : AVal} {x : Option (Nat × AObj)} (h : eff n0 o T = some (v, x)) : ∀ k y, x = some (k, y) → slotOf n0 o = some k ∧ y.isNew = true := by
 unfold eff at h
 split at h
 ·cases h
 ·simp only [Option.some.injEq, Prod.mk.injEq] at h
  obtain ⟨-, rfl⟩ := h
  exact fun _ _ e => by cases e
 ·rcases mov_cases hm with ⟨j, b, hop⟩ | ⟨hnb, hp⟩
  ·simp only [effA, hop, Option.map_eq_some_iff, Prod.mk.injEq] at h
   obtain ⟨⟨v', y'⟩, h1, rfl, rfl⟩ := h
   intro k y e
   simp only [Option.some.injEq, Prod.mk.injEq] at e
   obtain ⟨rfl, rfl⟩ := e
   exact ⟨by simp [slotOf, hop], born_new h1⟩
  ·rw [effA_nb hnb] at h
   simp only [Option.map_eq_some_iff, Prod.mk.injEq] at h
   obtain ⟨⟨v', H1⟩, h1, rfl, rfl⟩ := h
   exact fun _ _ e => by cases e
theorem front {P : Program} {n0 : Nat} {pre : Nat → Nat → Bool} {K : St → Prop} {i : Nat} {oi : AOper} (hm : oi.op.mov = true) {B : List (Nat × AOper)} :
 ∀ (A : List (Nat × AOper)), (∀ p ∈ A, p.2.op.cst = true ∧ Indep p.2 oi ∧ ∀ j b, p.2.op = .born j b → slotOf n0 oi ≠ some (n0 + j)) → ∀ (log : PLog) (s : St) (e : AVal × Option (Nat × AObj)), LogSt log → Free (slotOf n0 oi) s.T s.H → eff n0 oi s.T = some e →
  xDrawn P n0 pre (A ++ (i, oi) :: B) log K s → xDrawn P n0 pre ((i, oi) :: (A ++ B)) log K s
 | [], _, _, _, _, _, _, _, h => h
 | (k, ok) :: A, hA, log, s, (v, x), hst, hF, he, h => by
  obtain ⟨hcst, hind, hbk⟩ := hA (k, ok) List.mem_cons_self
  have hx := eff_slot hm he
  show stepD P n0 (pre i) i oi log (fun l' s' => stepD P n0 (pre k) k ok l' (fun l'' s'' => xDrawn P n0 pre (A ++ B) l'' K s'') s') s
  rw [stepD_mov hm]
  refine ⟨v, x, he, ?_⟩
  have h' : stepD P n0 (pre k) k ok log (fun l' s' => xDrawn P n0 pre (A ++ (i, oi) :: B) l' K s') ⟨s.T, s.H⟩ := h
  refine stepD_over (x := x) hx hcst hbk (fun t ht => ?_) hF (LogLe.refl log) hst (fun vk H1 l1 l1' hc hle hst1 hf1 => ?_) h'
  ·rw [setDst_getD, if_neg]
   rintro ⟨hd, -⟩
   exact hind.2 t hd ht
  ·have hag : ∀ t ∈ oi.looks, (setDst s.T ok.dst vk).getD t .top = s.T.getD t .top := fun t ht => by
    rw [setDst_getD, if_neg]
    rintro ⟨hd, -⟩
    exact (hind.1 t hd).1 ht
   have he1 : eff n0 oi (setDst s.T ok.dst vk) = some (v, x) := by rw [eff_congr hag]; exact he
   have hrec := front hm A (fun p hp => hA p (List.mem_cons_of_mem _ hp)) l1 ⟨setDst s.T ok.dst vk, H1⟩ (v, x) hst1 hf1 he1 hc
   have hrec' : stepD P n0 (pre i) i oi l1 (fun l' s' => xDrawn P n0 pre (A ++ B) l' K s') ⟨setDst s.T ok.dst vk, H1⟩ := hrec
   rw [stepD_mov hm] at hrec'
   obtain ⟨v', x', e1, hc'⟩ := hrec'
   rw [he1] at e1
   simp only [Option.some.injEq, Prod.mk.injEq] at e1
   obtain ⟨rfl, rfl⟩ := e1
   rw [setDst_comm (fun t ht => (hind.1 t ht).2)] at hc'
   exact xDrawn_le hle hc'
theorem RelO.cut {B : Nat → Prop} {σ : Sig} {H G : Heap} {w : World} {p : Place} {y : AObj} (h : RelO σ (H ++ G) B w p y) (hw : y.wf H.length) : RelO σ H B w p y := by
 cases y with
 | arr s xs ro =>
  obtain ⟨h1, h2, h3⟩ := h
  refine ⟨h1, h2, h3.imp id ?_⟩
  rintro ⟨c, e, fr, hb, hc, hn, hr⟩
  refine ⟨c, e, fr, hb, fun i x' j a hi hj => ?_, hn, hr⟩
  obtain ⟨v, hv, hrv⟩ := hc i x' j a hi hj
  exact ⟨v, hv, hrv.cut (wfs_iff.1 (hw x' (List.mem_of_getElem? hi)) a (List.mem_of_getElem? hj))⟩
 | map es =>
  obtain ⟨h1, ms, clock, hb, hk, hv⟩ := h
  exact ⟨h1, ms, clock, hb, hk.cut hw.1, hv.cut hw.2⟩
 | iter s p => exact h
 | ghost => trivial
mutual
theorem wf_of_refs {n : Nat} : ∀ {v : AVal}, v.refs (· < n) → v.wf n
 | .ptr .., h => by simpa only [AVal.refs, AVal.wf] using h
 | .slice .., h => by simpa only [AVal.refs, AVal.wf] using h
 | .acc .., h => by simpa only [AVal.refs, AVal.wf] using h
 | .isl .., h => by simpa only [AVal.refs, AVal.wf] using h
 | .map .., h => by simpa only [AVal.refs, AVal.wf] using h
 | .itr .., h => by simpa only [AVal.refs, AVal.wf] using h
 | .func _ l, h => by simp only [AVal.refs, AVal.wf] at *; exact wfs_of_refs h
 | .iface _ v, h => by simp only [AVal.refs, AVal.wf] at *; exact wf_of_refs h
 | .agg l, h => by simp only [AVal.refs, AVal.wf] at *; exact wfs_of_refs h
 | .tup l, h => by simp only [AVal.refs, AVal.wf] at *; exact wfs_of_refs h
 | .top, _ => by simp [AVal.wf]
 | .int .., _ => by simp [AVal.wf]
 | .bool _, _ => by simp [AVal.wf]
 | .str _, _ => by simp [AVal.wf]
 | .lit _, _ => by simp [AVal.wf]
theorem wfs_of_refs {n : Nat} : ∀ {l : List AVal}, refsL (· < n) l → wfs n l
 | [], _ => by simp [wfs]
 | a :: l, h => by simp only [refsL] at h; simp only [wfs]; exact ⟨wf_of_refs h.1, wfs_of_refs h.2⟩
end
mutual
theorem refs_of_wf {n : Nat} : ∀ {v : AVal}, v.wf n → v.refs (· < n)
 | .ptr .., h => by simpa only [AVal.refs, AVal.wf] using h
 | .slice .., h => by simpa only [AVal.refs, AVal.wf] using h
 | .acc .., h => by simpa only [AVal.refs, AVal.wf] using h
 | .isl .., h => by simpa only [AVal.refs, AVal.wf] using h
 | .map .., h => by simpa only [AVal.refs, AVal.wf] using h
 | .itr .., h => by simpa only [AVal.refs, AVal.wf] using h
 | .func _ l, h => by simp only [AVal.refs, AVal.wf] at *; exact refsL_of_wf h
 | .iface _ v, h => by simp only [AVal.refs, AVal.wf] at *; exact refs_of_wf h
 | .agg l, h => by simp only [AVal.refs, AVal.wf] at *; exact refsL_of_wf h
 | .tup l, h => by simp only [AVal.refs, AVal.wf] at *; exact refsL_of_wf h
 | .top, _ => by simp [AVal.refs]
 | .int .., _ => by simp [AVal.refs]
 | .bool _, _ => by simp [AVal.refs]
 | .str _, _ => by simp [AVal.refs]
 | .lit _, _ => by simp [AVal.refs]
theorem refsL_of_wf {n : Nat} : ∀ {l : List AVal}, wfs n l → refsL (· < n) l
 | [], _ => by simp [refsL]
 | a :: l, h => by simp only [wfs] at h; simp only [refsL]; exact ⟨refs_of_wf h.1, refsL_of_wf h.2⟩
end
theorem getD_refs {p : Nat → Prop} {T : List AVal} (h : refsL p T) (t : Nat) : (T.getD t .top).refs p := by
 cases ht : T[t]? with
 | none => simp [List.getD, ht, AVal.refs]
 | some a => simp only [List.getD, ht, Option.getD_some]; exact refsL_get h ht
theorem born_at {T : List AVal} {k n : Nat} {b : ABirth} {v : AVal} {x : AObj} (h : bornStep T k b = some (v, x)) : ∃ v0, bornStep T n b = some (v0, x) ∧
 ∀ {σ1 σ2 : Sig} {H1 H2 : Heap} {u : Value}, H1[n]? = some x → H2[k]? = some x → σ2 k = σ1 n → VR σ1 H1 v0 u → VR σ2 H2 v u := by
 have ptr : ∀ {σ1 σ2 : Sig} {H1 H2 : Heap} {u : Value} {a i j : Nat}, H1[n]? = some x → H2[k]? = some x → σ2 k = σ1 n → VR σ1 H1 (.ptr n a i j) u → VR σ2 H2 (.ptr k a i j) u := by
  intro σ1 σ2 H1 H2 u a i j h1 h2 h3 h4
  simp only [VR] at h4 ⊢
  rw [h1] at h4; rw [h2, h3]; exact h4
 have slc : ∀ {σ1 σ2 : Sig} {H1 H2 : Heap} {u : Value} {a i j : Nat} {f : Bool}, H1[n]? = some x → H2[k]? = some x → σ2 k = σ1 n → VR σ1 H1 (.slice n a i j f) u → VR σ2 H2 (.slice k a i j f) u := by
  intro σ1 σ2 H1 H2 u a i j f h1 h2 h3 h4
  simp only [VR] at h4 ⊢
  rw [h1] at h4; rw [h2, h3]; exact h4
 cases b <;> simp only [bornStep] at h ⊢
 case new =>
  simp only [Option.some.injEq, Prod.mk.injEq] at h; obtain ⟨rfl, rfl⟩ := h
  exact ⟨_, rfl, ptr⟩
 case box =>
  simp only [Option.map_eq_some_iff, Prod.mk.injEq] at h; obtain ⟨l, h1, rfl, rfl⟩ := h
  exact ⟨_, by rw [h1]; rfl, ptr⟩
 case bsl =>
  simp only [Option.map_eq_some_iff, Prod.mk.injEq] at h; obtain ⟨l, h1, rfl, rfl⟩ := h
  exact ⟨_, by rw [h1]; rfl, slc⟩
 case mks =>
  split at h
  case h_2 => cases h
  split at h
  case isFalse => cases h
  rename_i hc
  simp only [Option.some.injEq, Prod.mk.injEq] at h; obtain ⟨rfl, rfl⟩ := h
  exact ⟨_, by rw [if_pos hc], slc⟩
 case mkm =>
  simp only [Option.some.injEq, Prod.mk.injEq] at h; obtain ⟨rfl, rfl⟩ := h
  refine ⟨_, rfl, fun h1 h2 h3 h4 => ?_⟩
  simp only [VR] at h4 ⊢
  rw [h1] at h4; rw [h2, h3]; exact h4
theorem grow_fill {σ : Sig} {H : Heap} {k : Nat} (hk : H[k]? = some .ghost) (x : AObj) (p : Place) : Grow σ H (σ.upd k p) (H.set k x) := by
 have ne : ∀ {o : Nat} {y : AObj}, H[o]? = some y → y ≠ .ghost → o ≠ k := fun ho hy e => by subst e; rw [hk] at ho; injection ho with ho; exact hy ho.symm
 have hs : ∀ {o : Nat}, o ≠ k → (σ.upd k p) o = σ o := fun ho => by simp [Sig.upd, ho]
 refine ⟨by simp, fun {o s xs ro} ho => ?_, fun {o es} ho => ?_, fun {o s p} ho => ?_⟩
 ·have := ne ho (by simp)
  exact ⟨xs, by rw [List.getElem?_set_ne (Ne.symm this)]; exact ho, Nat.le_refl _, fun _ => hs this⟩
 ·have := ne ho (by simp)
  exact ⟨⟨es, by rw [List.getElem?_set_ne (Ne.symm this)]; exact ho⟩, hs this⟩
 ·have := ne ho (by simp)
  exact ⟨⟨s, p, by rw [List.getElem?_set_ne (Ne.symm this)]; exact ho⟩, hs this⟩
theorem Ext.fill {σ0 σ : Sig} {H0 H : Heap} (h : Ext σ0 H0 σ H) {k : Nat} (hk : H[k]? = some .ghost) (hn : H0.length ≤ k) {x : AObj} (hx : x.isNew = true) (p : Place) : Ext σ0 H0 (σ.upd k p) (H.set k x) := by
 refine ⟨h.toGrow.trans (grow_fill hk x p), fun {o} ho => ?_, fun {o s xs} ho => ?_⟩
 ·have hol := (List.getElem?_eq_some_iff.1 ho).1
  rw [List.getElem?_set_ne (by omega)]; exact h.ghost ho
 ·have hkl := (List.getElem?_eq_some_iff.1 hk).1
  have hne : k ≠ o := fun e => by subst e; rw [List.getElem?_set_self hkl] at ho; injection ho with ho; subst ho; cases hx
  rw [List.getElem?_set_ne hne] at ho
  obtain ⟨h1, h2⟩ := h.old ho
  exact ⟨h1, by rw [← h2]; simp [Sig.upd, Ne.symm hne]⟩
theorem born_real {P : Program} {B : Nat → Prop} {σ : Sig} {H : Heap} {w : World} {T : List AVal} {a : Act} {o : Oper} {b : ABirth} (hok : okOp P b.toOp o.op = true) (hc : b.cst = true) {k : Nat} (hk : H[k]? = some .ghost) {v : AVal} {x : AObj} (hs : bornStep T k b = some (v, x))
 (hR : RelH B σ H w) (hT : VRs σ H T a.tmps.toList) : ∃ (σ1 : Sig) (p : Place) (u : Value) (w' : World), ((execOp a.eval o).run P w = .ok (.value u) w' ∨ ((execOp a.eval o).run P w = .ok .skip w' ∧ u = undef)) ∧
  RelH B (σ1.upd k p) (H.set k x) w' ∧ VR (σ1.upd k p) (H.set k x) v u ∧ Ext σ H σ1 H ∧ Kept B w w' := by
 obtain ⟨v0, h0, hval⟩ := born_at (n := H.length) hs
 obtain ⟨σ', u, w', hrun, hR', hv, hext, hb⟩ := step_sound hok (born_step h0) hR hT
 have hkl := (List.getElem?_eq_some_iff.1 hk).1
 have hnx : (H ++ [x])[H.length]? = some x := by simp
 have hself : (H.set k x)[k]? = some x := List.getElem?_set_self hkl
 have hcut := hR'.cut (G := [x]) hR.wf
 have hextc : Ext σ H σ' H := hext.cut (Nat.le_refl _)
 have hxw : x.wf H.length := by
  have hTw := refsL_of_wf hT.wf
  have := (born_refs (p := (· < H.length)) (getD_refs hTw) hkl hc hs).2
  cases x with
  | arr s xs ro => exact fun y hy => wfs_of_refs (this y hy)
  | map es => exact ⟨wfs_of_refs this.1, wfs_of_refs this.2⟩
  | iter s p => trivial
  | ghost => trivial
 have hg := grow_fill (σ := σ') hk x (σ' H.length)
 have hs1 : ∀ {o : Nat}, o ≠ k → (σ'.upd k (σ' H.length)) o = σ' o := fun ho => by simp [Sig.upd, ho]
 have hsk : (σ'.upd k (σ' H.length)) k = σ' H.length := by simp [Sig.upd]
 have up : ∀ {o : Nat} {y : AObj}, H[o]? = some y → (H ++ [x])[o]? = some y := fun ho => by rw [List.getElem?_append_left (List.getElem?_eq_some_iff.1 ho).1]; exact ho
 refine ⟨σ', σ' H.length, u, w', hrun, ⟨fun {o y} ho => ?_, fun {o o' y y'} ho ho' hy hy' hbb => ?_, hR'.base⟩, hval hnx hself hsk hv, hextc, hb⟩
 ·by_cases e : k = o
  ·subst e
   rw [hself] at ho; injection ho with ho; subst ho
   rw [hsk]
   exact ((hR'.obj hnx).cut hxw).grow hg rfl
  ·rw [List.getElem?_set_ne e] at ho
   rw [hs1 (Ne.symm e)]
   exact (hcut.obj ho).grow hg rfl
 ·by_cases e : k = o <;> by_cases e' : k = o'
  ·omega
  ·exfalso
   subst e
   rw [hself] at ho; injection ho with ho; subst ho
   rw [List.getElem?_set_ne e'] at ho'
   rw [hsk] at hy hbb
   rw [hs1 (Ne.symm e')] at hy' hbb
   have := hR'.apart hnx (up ho') hy hy' hbb
   have := (List.getElem?_eq_some_iff.1 ho').1
   omega
  ·exfalso
   subst e'
   rw [hself] at ho'; injection ho' with ho'; subst ho'
   rw [List.getElem?_set_ne e] at ho
   rw [hsk] at hy' hbb
   rw [hs1 (Ne.symm e)] at hy hbb
   have := hR'.apart (up ho) hnx hy hy' hbb
   have := (List.getElem?_eq_some_iff.1 ho).1
   omega
  ·rw [List.getElem?_set_ne e] at ho
   rw [List.getElem?_set_ne e'] at ho'
   rw [hs1 (Ne.symm e)] at hy hbb
   rw [hs1 (Ne.symm e')] at hy' hbb
   exact hR'.apart (up ho) (up ho') hy hy' hbb
def Sat (T : List AVal) (H : Heap) : Prop := ∃ (B : Nat → Prop) (σ : Sig) (w : World) (vs : List Value), RelH B σ H w ∧ VRs σ H T vs
theorem Sat.put {T : List AVal} {H H1 : Heap} {B : Nat → Prop} {σ σ1 : Sig} {w1 : World} {vs : List Value} (hT : VRs σ H T vs) (hR : RelH B σ1 H1 w1) (hg : Grow σ H σ1 H1) (dst : Option Nat) {v : AVal} {u : Value} (hv : VR σ1 H1 v u) : Sat (setDst T dst v) H1 := by
 refine ⟨B, σ1, w1, (match dst with | none => vs | some d => vs.set d u), hR, ?_⟩
 cases dst with
 | none => exact hT.grow hg
 | some d => exact (hT.grow hg).set d hv
theorem stepD_real {P : Program} {R : Array Oper} {n0 : Nat} {pre : Nat → Bool} {i : Nat} {o : AOper} {oR : Oper} (hok : operOk P R o oR = true) (hcst : o.op.cst = true) {log : PLog} {C : PLog → St → Prop} {s : St} (hs : Sat s.T s.H) (hgh : ∀ j b, o.op = .born j b → s.H[n0 + j]? = some .ghost)
 (h : stepD P n0 pre i o log C s) : ∃ l1 v H1, C l1 ⟨setDst s.T o.dst v, H1⟩ ∧ Sat (setDst s.T o.dst v) H1 ∧ ∀ k : Nat, s.H[k]? = some .ghost → slotOf n0 o ≠ some k → H1[k]? = some .ghost := by
 obtain ⟨B, σ, w, vs, hR, hT⟩ := hs
 have act : actD P n0 pre i o log C s → ∃ l1 v H1, C l1 ⟨setDst s.T o.dst v, H1⟩ ∧ Sat (setDst s.T o.dst v) H1 ∧ ∀ k : Nat, s.H[k]? = some .ghost → slotOf n0 o ≠ some k → H1[k]? = some .ghost := by
  intro h
  simp only [operOk, Bool.and_eq_true, Bool.or_eq_true, beq_iff_eq] at hok
  obtain ⟨⟨hd, hg⟩, hop⟩ := hok
  unfold actD at h
  split at h
  ·rename_i j b hob
   split at h
   case h_2 => exact h.elim
   rename_i v x hbs
   have hk := hgh j b hob
   have hop' : okOp P b.toOp oR.op = true := by
    rw [hob] at hop
    rcases hop with hop | ⟨hop, -⟩
    ·exact hop
    ·simp [callOk] at hop
   rw [hob] at hcst
   obtain ⟨σ1, p, u, w1, -, hR1, hv, he, -⟩ := born_real (a := { tmps := vs.toArray, defers := [] }) hop' hcst hk hbs hR (by simpa using hT)
   refine ⟨_, _, _, h, Sat.put hT hR1 (he.toGrow.trans (grow_fill hk x p)) o.dst hv, fun k hk' hne => ?_⟩
   have : n0 + j ≠ k := fun e => hne (by simp [slotOf, hob, e])
   rw [List.getElem?_set_ne this]; exact hk'
  ·rename_i hnb
   have hpl : o.op.plainOp = o.op := by
    unfold AOp.plainOp
    split
    ·rename_i k b hop'; exact absurd hop' (hnb k b)
    ·rfl
   rw [hpl] at hop
   have plain : ∀ (v : AVal) (H1 : Heap), o.op.quiet = true ∨ (∀ f args, o.op ≠ .call f args) ∧ (∀ y args, o.op ≠ .callv y args) → aStep s.T s.H o.op = some (v, H1) → Sat (setDst s.T o.dst v) H1 ∧ ∀ k : Nat, s.H[k]? = some .ghost → slotOf n0 o ≠ some k → H1[k]? = some .ghost := by
    intro v H1 hnc hst
    have hop' : okOp P o.op oR.op = true := by
     rcases hop with hop | ⟨hop, -⟩
     ·exact hop
     ·exfalso
      unfold callOk at hop
      split at hop
      ·rename_i hao _
       rcases hnc with hq | hq
       ·rw [hao] at hq; cases hq
       ·exact hq.1 _ _ hao
      ·rename_i hao _
       rcases hnc with hq | hq
       ·rw [hao] at hq; cases hq
       ·exact hq.2 _ _ hao
      ·cases hop
    obtain ⟨σ1, u, w1, -, hR1, hv, he, -⟩ := step_sound (a := { tmps := vs.toArray, defers := [] }) hop' hst hR (by simpa using hT)
    exact ⟨Sat.put hT hR1 he.toGrow o.dst hv, fun k hk _ => (aStep_fill (x := .ghost) hk hst).2⟩
   split at h
   ·rename_i hq
    split at h
    case h_2 => exact h.elim
    rename_i v H1 hst
    have e := quiet_heap hq hst
    subst e
    obtain ⟨g1, g2⟩ := plain v _ (.inl hq) hst
    exact ⟨_, _, _, h, g1, g2⟩
   ·rename_i hq
    have calls : ∀ (f : FuncId) (args : List AVal) (hargs : ∃ xs, VRs σ s.H args xs), ACalls P f args s.H (fun v H' => chkS pre H' log ∧ C log ⟨setDst s.T o.dst v, H'⟩) → ∃ l1 v H1, C l1 ⟨setDst s.T o.dst v, H1⟩ ∧ Sat (setDst s.T o.dst v) H1 ∧ ∀ k : Nat, s.H[k]? = some .ghost → slotOf n0 o ≠ some k → H1[k]? = some .ghost := by
     intro f args hargs h
     obtain ⟨xs, hxs⟩ := hargs
     obtain ⟨e, w1, fr, ⟨y, σ1, v, H1, -, ⟨-, hk⟩, hR1, hv, he, -⟩, -⟩ := h B σ w xs hR hxs []
     exact ⟨_, _, _, hk, Sat.put hT hR1 he.toGrow o.dst hv, fun k hk _ => he.ghost hk⟩
    have hT' : VRs σ s.H s.T ({ tmps := vs.toArray, defers := [] } : Act).tmps.toList := by simpa using hT
    unfold xOne at h
    split at h
    ·rename_i f args hao
     have hc : callOk (.call f args) oR.op = true := by
      rw [hao] at hop
      rcases hop with hop | hop
      ·cases ho : oR.op <;> rw [ho] at hop <;> simp [okOp] at hop
      ·exact hop.1
     unfold callOk at hc
     split at hc
     case h_3 => cases hc
     case h_2 => rename_i e1 _; cases e1
     rename_i f' args' g cargs at' e1 e2
     injection e1 with e1 e1'; subst e1; subst e1'
     simp only [Bool.and_eq_true, beq_iff_eq] at hc
     exact calls f _ ⟨_, VR_args hT' hc.2⟩ h
    ·rename_i y args hao
     split at h
     case h_2 => exact h.elim
     rename_i f cap hfv
     have hc : callOk (.callv y args) oR.op = true := by
      rw [hao] at hop
      rcases hop with hop | hop
      ·cases ho : oR.op <;> rw [ho] at hop <;> simp [okOp] at hop
      ·exact hop.1
     unfold callOk at hc
     split at hc
     case h_3 => cases hc
     case h_1 => rename_i e1 _; cases e1
     rename_i y' args' yv cargs at' e1 e2
     injection e1 with e1 e1'; subst e1; subst e1'
     simp only [Bool.and_eq_true] at hc
     have hy := VR_arg hT' hc.1
     rw [hfv] at hy; simp only [VR] at hy
     obtain ⟨cs, -, hcap⟩ := hy
     exact calls f _ ⟨_, (VR_args hT' hc.2).append hcap⟩ h.2
    ·rename_i hn1 hn2
     split at h
     case h_2 => exact h.elim
     rename_i v H1 hst
     obtain ⟨g1, g2⟩ := plain v H1 (.inr ⟨hn1, hn2⟩) hst
     exact ⟨_, _, _, h.2, g1, g2⟩
 unfold stepD at h
 split at h
 ·exact act h
 ·split at h
  case h_2 => exact h.elim
  rename_i d b hg x2 g hgv
  by_cases hgb : g = some b
  ·exact act (h.1 hgb)
  ·refine ⟨_, _, _, h.2 hgb, Sat.put hT hR (Grow.refl _ _) o.dst (u := undef) VR_skip, fun k hk _ => hk⟩
theorem extract {P : Program} {R : Array Oper} {n0 : Nat} {pre : Nat → Nat → Bool} {K : St → Prop} {i : Nat} {oi : AOper} (hm : oi.op.mov = true) {B : List (Nat × AOper)} :
 ∀ (A : List (Nat × AOper)), (∀ p ∈ A, p.2.op.cst = true ∧ Indep p.2 oi ∧ ∃ oR, operOk P R p.2 oR = true) → A.Pairwise (fun p q => ∀ k, slotOf n0 p.2 = some k → slotOf n0 q.2 ≠ some k) → ∀ (log : PLog) (s : St), Sat s.T s.H → (∀ p ∈ A, ∀ j b, p.2.op = .born j b → s.H[n0 + j]? = some .ghost) →
  xDrawn P n0 pre (A ++ (i, oi) :: B) log K s → ∃ e, eff n0 oi s.T = some e
 | [], _, _, log, s, _, _, h => by
  have h' : stepD P n0 (pre i) i oi log (fun l' s' => xDrawn P n0 pre B l' K s') s := h
  rw [stepD_mov hm] at h'
  obtain ⟨v, x, he, -⟩ := h'
  exact ⟨_, he⟩
 | (k, ok) :: A, hA, hp, log, s, hs, hgh, h => by
  obtain ⟨hcst, hind, oR, hok⟩ := hA (k, ok) List.mem_cons_self
  rw [List.pairwise_cons] at hp
  have h' : stepD P n0 (pre k) k ok log (fun l' s' => xDrawn P n0 pre (A ++ (i, oi) :: B) l' K s') s := h
  obtain ⟨l1, v, H1, hc, hs1, hg1⟩ := stepD_real hok hcst hs (hgh (k, ok) List.mem_cons_self) h'
  have hag : ∀ t ∈ oi.looks, (setDst s.T ok.dst v).getD t .top = s.T.getD t .top := fun t ht => by
   rw [setDst_getD, if_neg]
   rintro ⟨hd, -⟩
   exact (hind.1 t hd).1 ht
  have := extract hm A (fun p hp => hA p (List.mem_cons_of_mem _ hp)) hp.2 l1 ⟨setDst s.T ok.dst v, H1⟩ hs1 (fun p hpm j b hb => ?_) hc
  ·rwa [eff_congr hag] at this
  ·refine hg1 _ (hgh p (List.mem_cons_of_mem _ hpm) j b hb) fun e => ?_
   exact hp.1 p hpm _ e (by simp [slotOf, hb])
end Go.Ax
