/- What may be done ahead of others, in a region that draws its order: calls leave places alone that are kept free. Conditions: none. -/
import Derived.Test.YtlaipllgmddkiaaGreatAxRefsZ
set_option linter.all false
namespace Go.Ax
open Go Go.RowKit
theorem chkS_iff {pre : Nat → Bool} {H : Heap} : ∀ {log : PLog}, chkS pre H log ↔ ∀ e ∈ log, e.2 H ∨ pre e.1 = true
 | [] => by simp [chkS]
 | (i, p) :: r => by simp only [chkS, chkS_iff (log := r), List.forall_mem_cons]
def LogLe (l2 l1 : PLog) : Prop := ∀ e ∈ l2, (∀ H, e.2 H) ∨ ∃ q : Heap → Prop, (e.1, q) ∈ l1 ∧ ∀ H, q H → e.2 H
def LogSt (log : PLog) : Prop := ∀ e ∈ log, ∀ (H : Heap) (k : Nat) (x : AObj), H[k]? = some .ghost → e.2 H → e.2 (H.set k x)
theorem LogLe.refl (l : PLog) : LogLe l l := fun e he => .inr ⟨e.2, he, fun _ h => h⟩
theorem LogLe.left {l2 l1 : PLog} (h : LogLe l2 l1) (e : Nat × (Heap → Prop)) : LogLe l2 (e :: l1) := fun a ha => (h a ha).imp id fun ⟨q, h1, h2⟩ => ⟨q, List.mem_cons_of_mem _ h1, h2⟩
theorem LogLe.cons {l2 l1 : PLog} (h : LogLe l2 l1) (i : Nat) {p2 p1 : Heap → Prop} (hp : ∀ H, p1 H → p2 H) : LogLe ((i, p2) :: l2) ((i, p1) :: l1) := by
 intro a ha
 rcases List.mem_cons.1 ha with rfl | ha
 ·exact .inr ⟨p1, List.mem_cons_self, hp⟩
 ·exact h.left _ a ha
theorem LogLe.free {l2 l1 : PLog} (h : LogLe l2 l1) (i : Nat) {p : Heap → Prop} (hp : ∀ H, p H) : LogLe ((i, p) :: l2) l1 := by
 intro a ha
 rcases List.mem_cons.1 ha with rfl | ha
 ·exact .inl hp
 ·exact h a ha
theorem LogLe.trans {a b c : PLog} (h : LogLe a b) (g : LogLe b c) : LogLe a c := by
 intro e he
 rcases h e he with h1 | ⟨q, h1, h2⟩
 ·exact .inl h1
 ·rcases g _ h1 with h3 | ⟨r, h3, h4⟩
  ·exact .inl fun H => h2 H (h3 H)
  ·exact .inr ⟨r, h3, fun H hr => h2 H (h4 H hr)⟩
theorem chkS_le {pre : Nat → Bool} {H : Heap} {l2 l1 : PLog} (h : LogLe l2 l1) (hc : chkS pre H l1) : chkS pre H l2 := by
 rw [chkS_iff] at *
 intro e he
 rcases h e he with h1 | ⟨q, h1, h2⟩
 ·exact .inl (h1 H)
 ·exact (hc _ h1).imp (h2 H) id
theorem chkS_fill {pre : Nat → Bool} {H : Heap} {log : PLog} (h : LogSt log) {k : Nat} (hk : H[k]? = some .ghost) (x : AObj) (hc : chkS pre H log) : chkS pre (H.set k x) log := by
 rw [chkS_iff] at *
 exact fun e he => (hc e he).imp (h e he H k x hk) id
theorem LogSt.step {log : PLog} (h : LogSt log) (i : Nat) (T : List AVal) (op : AOp) (v : AVal) : LogSt ((i, fun H => aStep T H op = some (v, H)) :: log) := by
 intro e he
 rcases List.mem_cons.1 he with rfl | he
 ·exact fun H k x hk hh => (aStep_fill hk hh).1
 ·exact h e he
theorem xOne_mono {P : Program} {o : AOper} {K K' : St → Prop} {s : St} (hk : ∀ s, K s → K' s) (h : xOne P o K s) : xOne P o K' s := by
 unfold xOne at h ⊢
 split at h
 ·exact h.mono fun v H' => hk _
 ·split at h
  ·exact ⟨h.1, h.2.mono fun v H' => hk _⟩
  ·exact h.elim
 ·split at h
  ·rename_i hs; exact hk _ h
  ·exact h.elim
theorem actD_mono {P : Program} {n0 : Nat} {pre : Nat → Bool} {i : Nat} {o : AOper} {l1 l2 : PLog} {C C' : PLog → St → Prop} {s : St} (hl : LogLe l2 l1) (hC : ∀ a1 a2 s, LogLe a2 a1 → C a1 s → C' a2 s) (h : actD P n0 pre i o l1 C s) : actD P n0 pre i o l2 C' s := by
 unfold actD at h ⊢
 split at h
 ·split at h
  ·exact hC _ _ _ hl h
  ·exact h.elim
 ·split at h
  ·rename_i hq
   rw [if_pos hq]
   split at h
   ·rename_i hs
    refine hC _ _ _ ?_ h
    split
    ·exact hl
    ·exact hl.cons i fun _ h => h
   ·exact h.elim
  ·rename_i hq
   rw [if_neg hq]
   exact xOne_mono (fun s' ⟨a, b⟩ => ⟨chkS_le hl a, hC _ _ _ hl b⟩) h
theorem stepD_mono {P : Program} {n0 : Nat} {pre : Nat → Bool} {i : Nat} {o : AOper} {l1 l2 : PLog} {C C' : PLog → St → Prop} {s : St} (hl : LogLe l2 l1) (hC : ∀ a1 a2 s, LogLe a2 a1 → C a1 s → C' a2 s) (h : stepD P n0 pre i o l1 C s) : stepD P n0 pre i o l2 C' s := by
 unfold stepD at h ⊢
 split at h
 ·exact actD_mono hl hC h
 ·split at h
  ·exact ⟨fun e => actD_mono hl hC (h.1 e), fun e => hC _ _ _ hl (h.2 e)⟩
  ·exact h.elim
theorem xDrawn_le {P : Program} {n0 : Nat} {pre : Nat → Nat → Bool} {K : St → Prop} : ∀ {rest : List (Nat × AOper)} {l1 l2 : PLog} {s : St}, LogLe l2 l1 → xDrawn P n0 pre rest l1 K s → xDrawn P n0 pre rest l2 K s
 | [], _, _, _, _, h => h
 | (i, o) :: rest, l1, l2, s, hl, h => stepD_mono hl (fun _ _ _ hl' => xDrawn_le hl') h
mutual
theorem VR.unfill {σ : Sig} {H : Heap} {k : Nat} {x : AObj} : ∀ {a : AVal} {v : Value}, VR σ (H.set k x) a v → a.refs (· ≠ k) → VR σ H a v
 | .ptr .., _, h, hw => by simp only [VR, AVal.refs] at *; rw [List.getElem?_set_ne (Ne.symm hw)] at h; exact h
 | .slice .., _, h, hw => by simp only [VR, AVal.refs] at *; rw [List.getElem?_set_ne (Ne.symm hw)] at h; exact h
 | .acc .., _, h, hw => by simp only [VR, AVal.refs] at *; rw [List.getElem?_set_ne (Ne.symm hw)] at h; exact h
 | .isl .., _, h, hw => by simp only [VR, AVal.refs] at *; rw [List.getElem?_set_ne (Ne.symm hw)] at h; exact h
 | .map .., _, h, hw => by simp only [VR, AVal.refs] at *; rw [List.getElem?_set_ne (Ne.symm hw)] at h; exact h
 | .itr .., _, h, hw => by simp only [VR, AVal.refs] at *; rw [List.getElem?_set_ne (Ne.symm hw)] at h; exact h
 | .func _ l, _, h, hw => by simp only [VR, AVal.refs] at *; obtain ⟨cs, rfl, hc⟩ := h; exact ⟨cs, rfl, VRs.unfill hc hw⟩
 | .iface _ v, _, h, hw => by simp only [VR, AVal.refs] at *; obtain ⟨cs, rfl, hc⟩ := h; exact ⟨cs, rfl, VR.unfill hc hw⟩
 | .agg l, _, h, hw => by simp only [VR, AVal.refs] at *; obtain ⟨ha, cs, rfl, hc⟩ := h; exact ⟨ha, cs, rfl, VRs.unfill hc hw⟩
 | .tup l, _, h, hw => by simp only [VR, AVal.refs] at *; obtain ⟨cs, rfl, hc⟩ := h; exact ⟨cs, rfl, VRs.unfill hc hw⟩
 | .top, _, _, _ => by simp [VR]
 | .int .., _, h, _ => by simpa only [VR] using h
 | .bool _, _, h, _ => by simpa only [VR] using h
 | .str _, _, h, _ => by simpa only [VR] using h
 | .lit _, _, h, _ => by simpa only [VR] using h
theorem VRs.unfill {σ : Sig} {H : Heap} {k : Nat} {x : AObj} : ∀ {l : List AVal} {r : List Value}, VRs σ (H.set k x) l r → refsL (· ≠ k) l → VRs σ H l r
 | [], [], _, _ => by simp
 | [], _ :: _, h, _ => by simp [VRs] at h
 | _ :: _, [], h, _ => by simp [VRs] at h
 | a :: l, v :: r, h, hw => by
  rw [VRs_cons] at h ⊢
  simp only [refsL] at hw
  exact ⟨VR.unfill h.1 hw.1, VRs.unfill h.2 hw.2⟩
end
mutual
theorem VR.refs {σ : Sig} {H : Heap} {k : Nat} (hk : H[k]? = some .ghost) : ∀ {a : AVal} {v : Value}, VR σ H a v → a.refs (· ≠ k)
 | .ptr .., _, h => by simp only [VR, AVal.refs] at *; obtain ⟨_, _, _, _, ho, _⟩ := h; intro e; subst e; rw [hk] at ho; cases ho
 | .slice .., _, h => by simp only [VR, AVal.refs] at *; obtain ⟨_, _, _, _, _, ho, _⟩ := h; intro e; subst e; rw [hk] at ho; cases ho
 | .acc .., _, h => by simp only [VR, AVal.refs] at *; obtain ⟨_, _, _, ho, _⟩ := h; intro e; subst e; rw [hk] at ho; cases ho
 | .isl .., _, h => by simp only [VR, AVal.refs] at *; obtain ⟨_, _, _, _, _, ho, _⟩ := h; intro e; subst e; rw [hk] at ho; cases ho
 | .map .., _, h => by simp only [VR, AVal.refs] at *; obtain ⟨_, _, ho⟩ := h; intro e; subst e; rw [hk] at ho; cases ho
 | .itr .., _, h => by simp only [VR, AVal.refs] at *; obtain ⟨_, _, _, ho⟩ := h; intro e; subst e; rw [hk] at ho; cases ho
 | .func _ l, _, h => by simp only [VR, AVal.refs] at *; obtain ⟨_, _, hc⟩ := h; exact VRs.refs hk hc
 | .iface _ v, _, h => by simp only [VR, AVal.refs] at *; obtain ⟨_, _, hc⟩ := h; exact VR.refs hk hc
 | .agg l, _, h => by simp only [VR, AVal.refs] at *; obtain ⟨_, _, _, hc⟩ := h; exact VRs.refs hk hc
 | .tup l, _, h => by simp only [VR, AVal.refs] at *; obtain ⟨_, _, hc⟩ := h; exact VRs.refs hk hc
 | .top, _, _ => by simp [AVal.refs]
 | .int .., _, _ => by simp [AVal.refs]
 | .bool _, _, _ => by simp [AVal.refs]
 | .str _, _, _ => by simp [AVal.refs]
 | .lit _, _, _ => by simp [AVal.refs]
theorem VRs.refs {σ : Sig} {H : Heap} {k : Nat} (hk : H[k]? = some .ghost) : ∀ {l : List AVal} {r : List Value}, VRs σ H l r → refsL (· ≠ k) l
 | [], [], _ => by simp [refsL]
 | [], _ :: _, h => by simp [VRs] at h
 | _ :: _, [], h => by simp [VRs] at h
 | a :: l, v :: r, h => by rw [VRs_cons] at h; simp only [refsL]; exact ⟨VR.refs hk h.1, VRs.refs hk h.2⟩
end
theorem RelH.refs {B : Nat → Prop} {σ : Sig} {H : Heap} {w : World} (h : RelH B σ H w) {k : Nat} (hk : H[k]? = some .ghost) : HRefs (· ≠ k) H := by
 intro o x ho
 have hr := h.obj ho
 cases x with
 | arr s xs ro =>
  obtain ⟨h1, h2, h3⟩ := hr
  intro x hx
  rw [refsL_iff]
  intro y hy
  obtain ⟨i, hi, rfl⟩ := List.mem_iff_getElem.1 hx
  obtain ⟨j, hj, rfl⟩ := List.mem_iff_getElem.1 hy
  obtain ⟨c, e, fr, hb, hc, -⟩ := h3.resolve_left (by omega)
  obtain ⟨v, -, hv⟩ := hc i _ j _ (List.getElem?_eq_getElem hi) (List.getElem?_eq_getElem hj)
  exact hv.refs hk
 | map es => obtain ⟨-, ms, clock, -, hk', hv⟩ := hr; exact ⟨hk'.refs hk, hv.refs hk⟩
 | iter s p => trivial
 | ghost => trivial
def plus (B : Nat → Prop) (x : AObj) (p : Place) : Nat → Prop := fun b => B b ∨ (x.owns p = true ∧ b = p.blk)
theorem RelH.unfill {B : Nat → Prop} {σ : Sig} {H : Heap} {w : World} {k : Nat} {x : AObj} (h : RelH B σ (H.set k x) w) (hk : H[k]? = some .ghost) (hrf : HRefs (· ≠ k) H) : RelH (plus B x (σ k)) σ H w := by
 have hkl : k < H.length := (List.getElem?_eq_some_iff.1 hk).1
 have hself : (H.set k x)[k]? = some x := List.getElem?_set_self hkl
 have up : ∀ {o : Nat} {y : AObj}, H[o]? = some y → y ≠ .ghost → o ≠ k ∧ (H.set k x)[o]? = some y := fun {o y} ho hy => by
  have : k ≠ o := fun e => by subst e; rw [hk] at ho; injection ho with ho; exact hy ho.symm
  exact ⟨Ne.symm this, by rw [List.getElem?_set_ne this]; exact ho⟩
 refine ⟨fun {o y} ho => ?_, fun {o o' y y'} ho ho' hy hy' hbb => ?_, fun b hb => ?_⟩
 ·cases y with
  | ghost => trivial
  | arr s xs ro =>
   obtain ⟨hne, hu⟩ := up ho (by simp)
   obtain ⟨h1, h2, h3⟩ := h.obj hu
   refine ⟨h1, h2, ?_⟩
   by_cases hroom : (σ o).room = 0
   ·exact .inl hroom
   ·right
    obtain ⟨c, e, fr, hb, hc, hn, hr⟩ := h3.resolve_left hroom
    refine ⟨c, e, fr, hb, fun i x' j a hi hj => ?_, fun hro => ?_, fun hro => .inl (hr hro)⟩
    ·obtain ⟨v, hv, hrv⟩ := hc i x' j a hi hj
     exact ⟨v, hv, hrv.unfill (refsL_iff.1 (hrf o _ ho x' (List.mem_of_getElem? hi)) a (List.mem_of_getElem? hj))⟩
    ·obtain ⟨q1, q2, q3, q4⟩ := hn hro
     refine ⟨fun hh => ?_, q2, q3, q4⟩
     rcases hh with hh | ⟨hx, hh⟩
     ·exact q1 hh
     ·exact hne (h.apart hu hself (by subst hro; simp [AObj.owns, hroom]) hx hh)
  | map es =>
   obtain ⟨hne, hu⟩ := up ho (by simp)
   obtain ⟨h1, ms, clock, hb, hk', hv⟩ := h.obj hu
   refine ⟨fun hh => ?_, ms, clock, hb, hk'.unfill (hrf o _ ho).1, hv.unfill (hrf o _ ho).2⟩
   rcases hh with hh | ⟨hx, hh⟩
   ·exact h1 hh
   ·exact hne (h.apart hu hself rfl hx hh)
  | iter s p =>
   obtain ⟨hne, hu⟩ := up ho (by simp)
   obtain ⟨h1, hb⟩ := h.obj hu
   refine ⟨fun hh => ?_, hb⟩
   rcases hh with hh | ⟨hx, hh⟩
   ·exact h1 hh
   ·exact hne (h.apart hu hself rfl hx hh)
 ·have n1 : y ≠ .ghost := by rintro rfl; cases hy
  have n2 : y' ≠ .ghost := by rintro rfl; cases hy'
  exact h.apart (up ho n1).2 (up ho' n2).2 hy hy' hbb
 ·rcases hb with hb | ⟨hx, rfl⟩
  ·exact h.base b hb
  ·exact blk_lt h hself hx
theorem RelH.refill {B : Nat → Prop} {σ σ' : Sig} {H H' : Heap} {w w' : World} {k : Nat} {x : AObj} (h0 : RelH B σ (H.set k x) w) (hx : x.isNew = true) (hk : H[k]? = some .ghost) (h : RelH (plus B x (σ k)) σ' H' w') (he : Ext σ H σ' H')
 (hw : Kept (plus B x (σ k)) w w') : RelH B (σ'.upd k (σ k)) (H'.set k x) w' ∧ Ext σ (H.set k x) (σ'.upd k (σ k)) (H'.set k x) ∧ Grow σ' H' (σ'.upd k (σ k)) (H'.set k x) := by
 have hkl : k < H.length := (List.getElem?_eq_some_iff.1 hk).1
 have hkl' : k < H'.length := Nat.lt_of_lt_of_le hkl he.size
 have hk' := he.ghost hk
 have hself : (H.set k x)[k]? = some x := List.getElem?_set_self hkl
 have hself' : (H'.set k x)[k]? = some x := List.getElem?_set_self hkl'
 have hs : ∀ {o : Nat}, o ≠ k → (σ'.upd k (σ k)) o = σ' o := fun ho => by simp [Sig.upd, ho]
 have hsk : (σ'.upd k (σ k)) k = σ k := by simp [Sig.upd]
 have ne : ∀ {o : Nat} {y : AObj}, H[o]? = some y → y ≠ .ghost → o ≠ k := fun ho hy e => by subst e; rw [hk] at ho; injection ho with ho; exact hy ho.symm
 have ne' : ∀ {o : Nat} {y : AObj}, H'[o]? = some y → y ≠ .ghost → o ≠ k := fun ho hy e => by subst e; rw [hk'] at ho; injection ho with ho; exact hy ho.symm
 have hgrow : Grow σ' H' (σ'.upd k (σ k)) (H'.set k x) := by
  refine ⟨by simp, fun {o s xs ro} ho => ?_, fun {o es} ho => ?_, fun {o s p} ho => ?_⟩
  ·have := ne' ho (by simp)
   exact ⟨xs, by rw [List.getElem?_set_ne (Ne.symm this)]; exact ho, Nat.le_refl _, fun _ => hs this⟩
  ·have := ne' ho (by simp)
   exact ⟨⟨es, by rw [List.getElem?_set_ne (Ne.symm this)]; exact ho⟩, hs this⟩
  ·have := ne' ho (by simp)
   exact ⟨⟨s, p, by rw [List.getElem?_set_ne (Ne.symm this)]; exact ho⟩, hs this⟩
 have hxg : x ≠ .ghost := by rintro rfl; cases hx
 have hxr : ∀ s xs, x ≠ .arr s xs true := by rintro s xs rfl; cases hx
 have hext : Ext σ (H.set k x) (σ'.upd k (σ k)) (H'.set k x) := by
  refine ⟨⟨by simpa using he.size, fun {o s xs ro} ho => ?_, fun {o es} ho => ?_, fun {o s p} ho => ?_⟩, fun {o} ho => ?_, fun {o s xs} ho => ?_⟩
  ·by_cases e : k = o
   ·subst e
    rw [hself] at ho; injection ho with ho; subst ho
    exact ⟨xs, hself', Nat.le_refl _, fun _ => hsk⟩
   ·rw [List.getElem?_set_ne e] at ho ⊢
    rw [hs (Ne.symm e)]
    exact he.arr ho
  ·by_cases e : k = o
   ·subst e
    rw [hself] at ho; injection ho with ho; subst ho
    exact ⟨⟨es, hself'⟩, hsk⟩
   ·rw [List.getElem?_set_ne e] at ho ⊢
    rw [hs (Ne.symm e)]
    exact he.map ho
  ·by_cases e : k = o
   ·subst e
    rw [hself] at ho; injection ho with ho; subst ho
    exact ⟨⟨s, p, hself'⟩, hsk⟩
   ·rw [List.getElem?_set_ne e] at ho ⊢
    rw [hs (Ne.symm e)]
    exact he.iter ho
  ·by_cases e : k = o
   ·subst e; rw [hself] at ho; injection ho with ho; exact absurd ho hxg
   ·rw [List.getElem?_set_ne e] at ho ⊢; exact he.ghost ho
  ·by_cases e : k = o
   ·subst e; rw [hself'] at ho; injection ho with ho; exact absurd ho (hxr _ _)
   ·rw [List.getElem?_set_ne e] at ho ⊢
    rw [hs (Ne.symm e)]
    exact he.old ho
 refine ⟨⟨fun {o y} ho => ?_, fun {o o' y y'} ho ho' hy hy' hbb => ?_, fun b hb => Nat.lt_of_lt_of_le (h0.base b hb) hw.size⟩, hext, hgrow⟩
 ·by_cases e : k = o
  ·subst e
   rw [hself'] at ho; injection ho with ho; subst ho
   rw [hsk]
   by_cases hown : x.owns (σ k) = true
   ·exact (h0.obj hself).ext hext (hw.block _ (.inr ⟨hown, rfl⟩))
   ·have hr := h0.obj hself
    cases x with
    | arr s xs ro =>
     cases ro with
     | true => cases hx
     | false =>
      obtain ⟨h1, h2, h3⟩ := hr
      exact ⟨h1, h2, .inl (by simpa [AObj.owns] using hown)⟩
    | map es => exact absurd rfl hown
    | iter s p => exact absurd rfl hown
    | ghost => trivial
  ·rw [List.getElem?_set_ne e] at ho
   rw [hs (Ne.symm e)]
   have hr := (h.obj ho).grow hgrow (w' := w') rfl
   cases y with
   | ghost => trivial
   | arr s xs ro =>
    obtain ⟨h1, h2, h3⟩ := hr
    refine ⟨h1, h2, ?_⟩
    by_cases hroom : (σ' o).room = 0
    ·exact .inl hroom
    right
    obtain ⟨c, e', fr, hb, hc, hn, hro⟩ := h3.resolve_left hroom
    refine ⟨c, e', fr, hb, hc, fun q => ⟨fun hh => (hn q).1 (.inl hh), (hn q).2⟩, fun q => ?_⟩
    subst q
    obtain ⟨⟨xs0, ho0⟩, hso⟩ := he.old ho
    have hu : (H.set k x)[o]? = some (.arr s xs0 true) := by rw [List.getElem?_set_ne e]; exact ho0
    obtain ⟨g1, g2, g3⟩ := h0.obj hu
    rw [hso] at hroom ⊢
    obtain ⟨_, _, _, _, _, _, g4⟩ := g3.resolve_left hroom
    exact g4 rfl
   | map es =>
    obtain ⟨h1, r⟩ := hr
    exact ⟨fun hh => h1 (.inl hh), r⟩
   | iter s p => exact ⟨fun hh => hr.1 (.inl hh), hr.2⟩
 ·by_cases e : k = o <;> by_cases e' : k = o'
  ·omega
  ·exfalso
   subst e
   rw [hself'] at ho; injection ho with ho; subst ho
   rw [List.getElem?_set_ne e'] at ho'
   rw [hsk] at hy hbb
   rw [hs (Ne.symm e')] at hy' hbb
   have hr := h.obj ho'
   have hB : plus B x (σ k) (σ' o').blk := .inr ⟨hy, hbb.symm⟩
   cases y' with
   | ghost => cases hy'
   | arr s xs ro =>
    obtain ⟨h1, h2, h3⟩ := hr
    simp [AObj.owns] at hy'
    obtain ⟨_, _, _, _, _, hn, _⟩ := h3.resolve_left hy'.2
    exact (hn hy'.1).1 hB
   | map es => exact hr.1 hB
   | iter s p => exact hr.1 hB
  ·exfalso
   subst e'
   rw [hself'] at ho'; injection ho' with ho'; subst ho'
   rw [List.getElem?_set_ne e] at ho
   rw [hsk] at hy' hbb
   rw [hs (Ne.symm e)] at hy hbb
   have hr := h.obj ho
   have hB : plus B x (σ k) (σ' o).blk := .inr ⟨hy', hbb⟩
   cases y with
   | ghost => cases hy
   | arr s xs ro =>
    obtain ⟨h1, h2, h3⟩ := hr
    simp [AObj.owns] at hy
    obtain ⟨_, _, _, _, _, hn, _⟩ := h3.resolve_left hy.2
    exact (hn hy.1).1 hB
   | map es => exact hr.1 hB
   | iter s p => exact hr.1 hB
  ·rw [List.getElem?_set_ne e] at ho
   rw [List.getElem?_set_ne e'] at ho'
   rw [hs (Ne.symm e)] at hy hbb
   rw [hs (Ne.symm e')] at hy' hbb
   exact h.apart ho ho' hy hy' hbb
theorem ACalls.info {P : Program} {f : FuncId} {args : List AVal} {H : Heap} {K : AVal → Heap → Prop} (h : ACalls P f args H K) :
 ACalls P f args H fun v H' => K v H' ∧ ∀ k : Nat, H[k]? = some .ghost → H'[k]? = some .ghost ∧ v.refs (· ≠ k) ∧ HRefs (· ≠ k) H' :=
 fun B σ w vs hR hV => (h B σ w vs hR hV).mono fun _ _ ⟨x, σ', v, H', he, hK, hR', hv, hext, hb⟩ =>
  ⟨x, σ', v, H', he, ⟨hK, fun k hk => ⟨hext.ghost hk, hv.refs (hext.ghost hk), hR'.refs (hext.ghost hk)⟩⟩, hR', hv, hext, hb⟩
theorem ACalls.frame {P : Program} {f : FuncId} {args : List AVal} {H : Heap} {K : AVal → Heap → Prop} {k : Nat} {x : AObj} (hk : H[k]? = some .ghost) (hx : x.isNew = true) (ha : refsL (· ≠ k) args) (hrf : HRefs (· ≠ k) H) (h : ACalls P f args H K) :
 ACalls P f args (H.set k x) fun v H'' => ∃ H', K v H' ∧ H'' = H'.set k x := by
 intro B σ w vs hR hV
 refine (h _ σ w vs (hR.unfill hk hrf) (hV.unfill ha)).mono ?_
 rintro e w' ⟨y, σ', v, H', rfl, hK, hR', hv, hext, hb⟩
 obtain ⟨g1, g2, g3⟩ := RelH.refill hR hx hk hR' hext hb
 exact ⟨y, _, v, H'.set k x, rfl, ⟨H', hK, rfl⟩, g1, hv.grow g3, g2, hb.mono fun b hb => .inl hb⟩
end Go.Ax
