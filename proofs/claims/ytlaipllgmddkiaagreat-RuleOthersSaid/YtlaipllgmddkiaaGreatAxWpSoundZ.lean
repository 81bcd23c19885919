/- What is computed of the code holds of the program's code. Conditions: none. -/
import Derived.Test.YtlaipllgmddkiaaGreatAxDrawZ
set_option linter.all false
namespace Go.Ax
open Go Go.RowKit
theorem xOne_plain {P : Program} {o : AOper} {K : St → Prop} {s : St} (h : xOne P o K s) : o.op.plainOp = o.op := by
 refine plain_nb fun j b e => ?_
 simp only [xOne, e, aStep] at h
theorem wpOps_sound {P : Program} {ops : Array Oper} {B : Nat → Prop} {σ0 : Sig} {H0 : Heap} {w0 : World} {K : St → Prop} {Q : Exit → Act → World → Prop}
 (hQ : ∀ s σ a w, K s → Holds B σ0 H0 w0 s σ a w → Q .normal a w) : ∀ (l : List AOper) (r : List Oper), opersOk P ops l r = true → ∀ (s : St) (σ : Sig) (a : Act) (w : World), xOps P l K s → Holds B σ0 H0 w0 s σ a w → wpList P ops Q r a w
 | [], [], _, s, σ, a, w, h, hH => hQ s σ a w h hH
 | [], _ :: _, h, _, _, _, _, _, _ => by simp [opersOk] at h
 | _ :: _, [], h, _, _, _, _, _, _ => by simp [opersOk] at h
 | ao :: l, o :: r, hok, s, σ, a, w, h, hH => by
  simp only [opersOk, Bool.and_eq_true] at hok
  obtain ⟨h1, h2⟩ := hok
  have ih := wpOps_sound hQ l r h2
  have hg : guardOk ops ao.guard o.guard = true := by
   simp only [operOk, Bool.and_eq_true] at h1; exact h1.1.2
  have hd : ao.dst = o.dst := by
   simp only [operOk, Bool.and_eq_true, beq_iff_eq] at h1; exact h1.1.1
  simp only [xOps, xOp] at h
  unfold guardOk at hg
  split at hg
  ·rename_i g1 g2
   simp only [g1] at h
   refine wpList_plain g2 fun K' hK' => ?_
   exact wpOne_sound h1 (xOne_plain h) h hH (fun s' σ' a' w' hs hh => hK' _ _ (ih s' σ' a' w' hs hh))
  ·rename_i d b j b' g1 g2
   simp only [Bool.and_eq_true, beq_iff_eq] at hg
   obtain ⟨rfl, hj⟩ := hg
   simp only [g1] at h
   split at h
   case h_2 => exact h.elim
   rename_i g hgv
   simp only [aget] at hgv
   -- the guard's value
   have hval : yielded ops a.tmps j = g := yielded_gof hj hH.tmps hgv
   obtain ⟨h3, h4⟩ := h
   unfold wpList
   by_cases hgb : g = some b
   ·rw [if_pos (by simp [Region.wanted, g2, hval, hgb])]
    exact .inl (wpOne_sound h1 (xOne_plain (h3 hgb)) (h3 hgb) hH (fun s' σ' a' w' hs hh => ih s' σ' a' w' hs hh))
   ·rw [if_neg (by simp [Region.wanted, g2, hval, hgb])]
    refine ih _ σ _ w (h4 hgb) ?_
    rw [← hd]
    exact hH.put ao.dst hH.rel VR_skip (Ext.refl _ _) (Kept.refl _ _)
  ·cases hg
theorem wpx_sound {P : Program} : ∀ (c : ACode) (code : Code), codeOk P c code = true → ∀ (Q : Exit → St → Prop) (s : St) (B : Nat → Prop) (σ0 : Sig) (H0 : Heap) (w0 : World) (σ : Sig) (a : Act) (w : World),
 wpx P H0.length c Q s → Holds B σ0 H0 w0 s σ a w → code.wp P (Lift B σ0 H0 w0 Q) a w
 | .wild, _, _, _, _, _, _, _, _, _, _, _, h, _ => by cases h
 | .skip, code, hok, Q, s, B, σ0, H0, w0, σ, a, w, h, hH => by
  cases code <;> simp [codeOk] at hok
  exact wp_skip (hH.lift h)
 | .ret, code, hok, Q, s, B, σ0, H0, w0, σ, a, w, h, hH => by
  cases code <;> simp [codeOk] at hok
  exact wp_ret (hH.lift h)
 | .exit i, code, hok, Q, s, B, σ0, H0, w0, σ, a, w, h, hH => by
  cases code <;> simp [codeOk] at hok
  subst hok
  exact wp_exit (hH.lift h)
 | .region l, code, hok, Q, s, B, σ0, H0, w0, σ, a, w, h, hH => by
  cases code
  case region id ops d =>
   cases d
   case true => simp [codeOk] at hok
   case false =>
    simp only [codeOk] at hok
    exact wp_region_list (wpOps_sound (fun s σ a w hs hh => hh.lift hs) l _ hok s σ a w h hH)
  all_goals simp [codeOk] at hok
 | .drawn wl aft nb, code, hok, Q, s, B, σ0, H0, w0, σ, a, w, h, hH => by
  cases code
  case region id ops d =>
   cases d
   case false => simp [codeOk] at hok
   case true =>
    simp only [codeOk, Bool.and_eq_true] at hok
    exact drawn_sound hok.1.1 hok.1.2 hok.2 (by rw [unord_get hok.2]; exact h) hH (fun s σ a w hs hh => hh.lift hs)
  all_goals simp [codeOk] at hok
 | .seq x y, code, hok, Q, s, B, σ0, H0, w0, σ, a, w, h, hH => by
  cases code <;> simp [codeOk] at hok
  rename_i x' y'
  refine wp_seq (wp_mono (wpx_sound x x' hok.1 _ s B σ0 H0 w0 σ a w h hH) ?_)
  intro e a1 w1 hl
  obtain ⟨s1, σ1, hq, hh⟩ := hl.holds
  cases e <;> (try simp only [thenX, Exit.then] at hq ⊢) <;> first
   | exact wpx_sound y y' hok.2 Q s1 B σ0 H0 w0 σ1 a1 w1 hq hh
   | exact hh.lift hq
 | .cond c t e, code, hok, Q, s, B, σ0, H0, w0, σ, a, w, h, hH => by
  cases code <;> simp only [codeOk, Bool.false_eq_true, Bool.and_eq_true] at hok
  rename_i c' t' e'
  obtain ⟨⟨h1, h2⟩, h3⟩ := hok
  have hv := VR_arg hH.tmps h1
  simp only [wpx] at h
  split at h
  case h_2 => exact h.elim
  rename_i b hb
  rw [hb] at hv
  simp only [VR] at hv
  exact wp_cond_split hv (fun hb => wpx_sound t t' h2 Q s B σ0 H0 w0 σ a w (h.1 hb) hH) (fun hb => wpx_sound e e' h3 Q s B σ0 H0 w0 σ a w (h.2 hb) hH)
 | .block i c, code, hok, Q, s, B, σ0, H0, w0, σ, a, w, h, hH => by
  cases code <;> simp [codeOk] at hok
  rename_i i' c'
  obtain ⟨rfl, hok⟩ := hok
  refine wp_block (wp_mono (wpx_sound c c' hok _ s B σ0 H0 w0 σ a w h hH) ?_)
  intro e a1 w1 hl
  obtain ⟨s1, σ1, hq, hh⟩ := hl.holds
  cases e <;> (try simp only [blockX, Exit.inBlock] at hq ⊢) <;> first
   | exact hh.lift hq
   | (split at hq
      ·rename_i he; subst he; simp only [if_true]; exact hh.lift hq
      ·rename_i he; simp only [he, if_false]; exact hh.lift hq)
 | .loop c, code, hok, Q, s, B, σ0, H0, w0, σ, a, w, h, hH => by
  cases code <;> simp only [codeOk, Bool.false_eq_true] at hok
  rename_i c'
  exact (h c' hok B σ0 H0 w0 σ a w rfl hH).wp
theorem ALoop.unfold {P : Program} {n0 : Nat} {c : ACode} {Q : Exit → St → Prop} {s : St} (h : wpx P n0 c (thenX (ALoop P n0 c Q) Q) s) : ALoop P n0 c Q s := by
 intro code hok B σ0 H0 w0 σ a w hn hH
 subst hn
 refine LoopWp.unfold (wp_mono (wpx_sound c code hok _ s B σ0 H0 w0 σ a w h hH) ?_)
 intro e a1 w1 hl
 obtain ⟨s1, σ1, hq, hh⟩ := hl.holds
 cases e <;> (try simp only [thenX, Exit.then] at hq ⊢) <;> first
  | exact hq code hok B σ0 H0 w0 σ1 a1 w1 rfl hh
  | exact hh.lift hq
def weaker : List AVal → List AVal → Prop
 | [], [] => True
 | a :: l, b :: r => (b = .top ∨ b = a) ∧ weaker l r
 | _, _ => False
theorem VRs.weaken {σ : Sig} {H : Heap} : ∀ {l r : List AVal} {vs : List Value}, weaker l r → VRs σ H l vs → VRs σ H r vs
 | [], [], _, _, h => h
 | [], _ :: _, _, h, _ => by simp [weaker] at h
 | _ :: _, [], _, h, _ => by simp [weaker] at h
 | a :: l, b :: r, [], _, h => by simp [VRs] at h
 | a :: l, b :: r, v :: vs, hw, h => by
  simp only [weaker] at hw
  rw [VRs_cons] at h ⊢
  refine ⟨?_, VRs.weaken hw.2 h.2⟩
  rcases hw.1 with rfl | rfl
  ·simp [VR]
  ·exact h.1
theorem ALoop.weaken {P : Program} {n0 : Nat} {c : ACode} {Q : Exit → St → Prop} {T T' : List AVal} {H : Heap} (hw : weaker T T') (h : ALoop P n0 c Q ⟨T', H⟩) : ALoop P n0 c Q ⟨T, H⟩ :=
 fun code hok B σ0 H0 w0 σ a w hn hH => h code hok B σ0 H0 w0 σ a w hn ⟨hH.rel, hH.tmps.weaken hw, hH.ext, hH.below, hH.defers⟩
theorem wpx_of {P : Program} {n0 : Nat} {c c' : ACode} (h : c = c') {Q : Exit → St → Prop} {s : St} : wpx P n0 c Q s = wpx P n0 c' Q s := by rw [h]
theorem ALoop.cut {P : Program} {n0 : Nat} {c : ACode} {Q : Exit → St → Prop} {T : List AVal} {H G : Heap} (hn : n0 ≤ H.length) (hT : wfs H.length T) (hH : WfH H) (h : ALoop P n0 c Q ⟨T, H⟩) : ALoop P n0 c Q ⟨T, H ++ G⟩ :=
 fun code hok B σ0 H0 w0 σ a w e hh => h code hok B σ0 H0 w0 σ a w e ⟨hh.rel.cut hH, hh.tmps.cut hT, hh.ext.cut (by omega), hh.below, hh.defers⟩
theorem ALoop.wf {P : Program} {n0 : Nat} {c : ACode} {Q : Exit → St → Prop} {s : St} (h : WfH s.H → wfs s.H.length s.T → n0 ≤ s.H.length → ALoop P n0 c Q s) : ALoop P n0 c Q s :=
 fun code hok B σ0 H0 w0 σ a w e hh => h hh.rel.wf hh.tmps.wf (by rw [← e]; exact hh.ext.size) code hok B σ0 H0 w0 σ a w e hh
theorem ACalls.cut {P : Program} {f : FuncId} {args : List AVal} {H : Heap} {K : AVal → Heap → Prop}
 (h : ACalls P f args H fun v H' => ∃ H1 G, H' = H1 ++ G ∧ H.length ≤ H1.length ∧ v.wf H1.length ∧ (WfH H → WfH H1) ∧ K v H1) : ACalls P f args H K :=
 fun B σ w vs hR hV => (h B σ w vs hR hV).mono fun _ _ ⟨x, σ', v, _, he, ⟨H1, G, rfl, hl, hv, hw, hK⟩, hR', hx, hext, hb⟩ =>
  ⟨x, σ', v, H1, he, hK, hR'.cut (hw hR.wf), hx.cut hv, hext.cut hl, hb⟩
theorem ACalls.wf {P : Program} {f : FuncId} {args : List AVal} {H : Heap} {K : AVal → Heap → Prop} (h : WfH H → wfs H.length args → ACalls P f args H K) : ACalls P f args H K :=
 fun B σ w vs hR hV => h hR.wf hV.wf B σ w vs hR hV
theorem ACalls.clean {P : Program} {f : FuncId} {args : List AVal} {H : Heap} {K : AVal → Heap → Prop} (h : ACalls P f args H fun v H' => v.plain = true ∧ ∃ H1 G, H' = H1 ++ G ∧ H.length ≤ H1.length ∧ (WfH H → WfH H1) ∧ K v H1) : ACalls P f args H K :=
 ACalls.cut (h.mono fun v H' ⟨hv, H1, G, e, hl, hw, hk⟩ => ⟨H1, G, e, hl, wf_of_flat hv, hw, hk⟩)
theorem oW {c c' : ACode} (h : c = c') : ∀ (P : Program) (n : Nat) (Q : Exit → St → Prop) (s : St), wpx P n c Q s = wpx P n c' Q s := fun _ _ _ _ => wpx_of h
theorem aW {c c' : ACode} (h : c = c') {b : Prop} (y : b) : (∀ (P : Program) (n : Nat) (Q : Exit → St → Prop) (s : St), wpx P n c Q s = wpx P n c' Q s) ∧ b := ⟨oW h, y⟩
end Go.Ax
