/- What is computed of the code holds of the program's code. Conditions: none. -/
import Derived.Test.YtcdihghokoinhaaAxDraw
namespace Go.Ax
open Go Go.RowKit
set_option linter.unusedVariables false

theorem wpOps_sound {P : Program} {ops : Array Oper} {B : Nat} {σ0 : Sig} {H0 : Heap} {w0 : World} {K : St → Prop} {Q : Exit → Act → World → Prop}
    (hQ : ∀ s σ a w, K s → Holds B σ0 H0 w0 s σ a w → Q .normal a w) : ∀ (l : List AOper) (r : List Oper), opersOk P ops l r = true → ∀ (s : St) (σ : Sig) (a : Act) (w : World), xOps P l K s → Holds B σ0 H0 w0 s σ a w → wpList P ops Q r a w
  | [], [], _, s, σ, a, w, h, hH => hQ s σ a w h hH
  | [], _ :: _, h, _, _, _, _, _, _ => by simp [opersOk] at h
  | _ :: _, [], h, _, _, _, _, _, _ => by simp [opersOk] at h
  | ao :: l, o :: r, hok, s, σ, a, w, h, hH => by
    simp only [opersOk, Bool.and_eq_true] at hok
    obtain ⟨h1, h2⟩ := hok
    have ih := wpOps_sound hQ l r h2
    have hg : guardOk ops ao.guard o.guard = true := by
      simp only [operOk, Bool.and_eq_true] at h1; exact h1.1.2
    have hd : ao.dst = o.dst := by
      simp only [operOk, Bool.and_eq_true, beq_iff_eq] at h1; exact h1.1.1
    simp only [xOps, xOp] at h
    unfold guardOk at hg
    split at hg
    · rename_i g1 g2
      simp only [g1] at h
      refine wpList_plain g2 fun K' hK' => ?_
      exact wpOne_sound h1 h hH (fun s' σ' a' w' hs hh => hK' _ _ (ih s' σ' a' w' hs hh))
    · rename_i d b j b' g1 g2
      simp only [Bool.and_eq_true, beq_iff_eq] at hg
      obtain ⟨rfl, hj⟩ := hg
      simp only [g1] at h
      split at h
      case h_2 => exact h.elim
      rename_i g hgv
      simp only [aget] at hgv
      -- the guard's value
      have hval : yielded ops a.tmps j = some g := by
        have : s.T[d]? = some (.bool g) := by
          cases ht : s.T[d]? with
          | none => simp [List.getD, ht] at hgv
          | some y => simp [List.getD, ht] at hgv; rw [hgv]
        obtain ⟨u, hu, hr⟩ := hH.tmps.get this
        simp only [VR] at hr
        subst hr
        rw [Array.getElem?_toList] at hu
        simp [yielded, hj, hu]
      obtain ⟨h3, h4⟩ := h
      unfold wpList
      by_cases hgb : g = b
      · rw [if_pos (by simp [Region.wanted, g2, hval, hgb])]
        exact .inl (wpOne_sound h1 (h3 hgb) hH (fun s' σ' a' w' hs hh => ih s' σ' a' w' hs hh))
      · rw [if_neg (by simp [Region.wanted, g2, hval, hgb])]
        refine ih _ σ _ w (h4 hgb) ?_
        rw [← hd]
        exact hH.put ao.dst hH.rel (by simp [VR]) (Ext.refl _ _) (Below.refl _ _)
    · cases hg

theorem wpx_sound {P : Program} : ∀ (c : ACode) (code : Code), codeOk P c code = true → ∀ (Q : Exit → St → Prop) (s : St) (B : Nat) (σ0 : Sig) (H0 : Heap) (w0 : World) (σ : Sig) (a : Act) (w : World),
    wpx P H0.length c Q s → Holds B σ0 H0 w0 s σ a w → code.wp P (Lift B σ0 H0 w0 Q) a w
  | .skip, code, hok, Q, s, B, σ0, H0, w0, σ, a, w, h, hH => by
    cases code <;> simp [codeOk] at hok
    exact wp_skip (hH.lift h)
  | .ret, code, hok, Q, s, B, σ0, H0, w0, σ, a, w, h, hH => by
    cases code <;> simp [codeOk] at hok
    exact wp_ret (hH.lift h)
  | .exit i, code, hok, Q, s, B, σ0, H0, w0, σ, a, w, h, hH => by
    cases code <;> simp [codeOk] at hok
    subst hok
    exact wp_exit (hH.lift h)
  | .region l, code, hok, Q, s, B, σ0, H0, w0, σ, a, w, h, hH => by
    cases code
    case region id ops d =>
      cases d
      case true => simp [codeOk] at hok
      case false =>
        simp only [codeOk] at hok
        exact wp_region_list (wpOps_sound (fun s σ a w hs hh => hh.lift hs) l _ hok s σ a w h hH)
    all_goals simp [codeOk] at hok
  | .drawn l aft ord, code, hok, Q, s, B, σ0, H0, w0, σ, a, w, h, hH => by
    cases code
    case region id ops d =>
      cases d
      case false => simp [codeOk] at hok
      case true =>
        simp only [codeOk, Bool.and_eq_true] at hok
        exact drawn_sound hok.1.1 hok.1.2 hok.2 h hH (fun s σ a w hs hh => hh.lift hs)
    all_goals simp [codeOk] at hok
  | .seq x y, code, hok, Q, s, B, σ0, H0, w0, σ, a, w, h, hH => by
    cases code <;> simp [codeOk] at hok
    rename_i x' y'
    refine wp_seq (wp_mono (wpx_sound x x' hok.1 _ s B σ0 H0 w0 σ a w h hH) ?_)
    intro e a1 w1 hl
    obtain ⟨s1, σ1, hq, hh⟩ := hl.holds
    cases e <;> (try simp only [thenX, Exit.then] at hq ⊢) <;> first
      | exact wpx_sound y y' hok.2 Q s1 B σ0 H0 w0 σ1 a1 w1 hq hh
      | exact hh.lift hq
  | .cond c t e, code, hok, Q, s, B, σ0, H0, w0, σ, a, w, h, hH => by
    cases code <;> simp only [codeOk, Bool.false_eq_true, Bool.and_eq_true] at hok
    rename_i c' t' e'
    obtain ⟨⟨h1, h2⟩, h3⟩ := hok
    have hv := VR_arg hH.tmps h1
    simp only [wpx] at h
    split at h
    case h_2 => exact h.elim
    rename_i b hb
    rw [hb] at hv
    simp only [VR] at hv
    exact wp_cond_split hv (fun hb => wpx_sound t t' h2 Q s B σ0 H0 w0 σ a w (h.1 hb) hH) (fun hb => wpx_sound e e' h3 Q s B σ0 H0 w0 σ a w (h.2 hb) hH)
  | .block i c, code, hok, Q, s, B, σ0, H0, w0, σ, a, w, h, hH => by
    cases code <;> simp [codeOk] at hok
    rename_i i' c'
    obtain ⟨rfl, hok⟩ := hok
    refine wp_block (wp_mono (wpx_sound c c' hok _ s B σ0 H0 w0 σ a w h hH) ?_)
    intro e a1 w1 hl
    obtain ⟨s1, σ1, hq, hh⟩ := hl.holds
    cases e <;> (try simp only [blockX, Exit.inBlock] at hq ⊢) <;> first
      | exact hh.lift hq
      | (split at hq
         · rename_i he; subst he; simp only [if_true]; exact hh.lift hq
         · rename_i he; simp only [he, if_false]; exact hh.lift hq)
  | .loop c, code, hok, Q, s, B, σ0, H0, w0, σ, a, w, h, hH => by
    cases code <;> simp only [codeOk, Bool.false_eq_true] at hok
    rename_i c'
    exact (h c' hok B σ0 H0 w0 σ a w rfl hH).wp

/-- One round. -/
theorem ALoop.unfold {P : Program} {n0 : Nat} {c : ACode} {Q : Exit → St → Prop} {s : St} (h : wpx P n0 c (thenX (ALoop P n0 c Q) Q) s) : ALoop P n0 c Q s := by
  intro code hok B σ0 H0 w0 σ a w hn hH
  subst hn
  refine LoopWp.unfold (wp_mono (wpx_sound c code hok _ s B σ0 H0 w0 σ a w h hH) ?_)
  intro e a1 w1 hl
  obtain ⟨s1, σ1, hq, hh⟩ := hl.holds
  cases e <;> (try simp only [thenX, Exit.then] at hq ⊢) <;> first
    | exact hq code hok B σ0 H0 w0 σ1 a1 w1 rfl hh
    | exact hh.lift hq

/-- Less may be known. -/
def weaker : List AVal → List AVal → Prop
  | [], [] => True
  | a :: l, b :: r => (b = .top ∨ b = a) ∧ weaker l r
  | _, _ => False

theorem VRs.weaken {σ : Sig} {H : Heap} : ∀ {l r : List AVal} {vs : List Value}, weaker l r → VRs σ H l vs → VRs σ H r vs
  | [], [], _, _, h => h
  | [], _ :: _, _, h, _ => by simp [weaker] at h
  | _ :: _, [], _, h, _ => by simp [weaker] at h
  | a :: l, b :: r, [], _, h => by simp [VRs] at h
  | a :: l, b :: r, v :: vs, hw, h => by
    simp only [weaker] at hw
    rw [VRs_cons] at h ⊢
    refine ⟨?_, VRs.weaken hw.2 h.2⟩
    rcases hw.1 with rfl | rfl
    · simp [VR]
    · exact h.1

theorem ALoop.weaken {P : Program} {n0 : Nat} {c : ACode} {Q : Exit → St → Prop} {T T' : List AVal} {H : Heap} (hw : weaker T T') (h : ALoop P n0 c Q ⟨T', H⟩) : ALoop P n0 c Q ⟨T, H⟩ :=
  fun code hok B σ0 H0 w0 σ a w hn hH => h code hok B σ0 H0 w0 σ a w hn ⟨hH.rel, hH.tmps.weaken hw, hH.ext, hH.below, hH.defers⟩

/-- A named code, opened where it is walked. -/
theorem wpx_of {P : Program} {n0 : Nat} {c c' : ACode} (h : c = c') {Q : Exit → St → Prop} {s : St} : wpx P n0 c Q s = wpx P n0 c' Q s := by rw [h]

/-! ### Letting objects go -/

mutual
/-- All objects that are named have a number below n. -/
def AVal.wf (n : Nat) : AVal → Prop
  | .ptr o _ _ _ => o < n
  | .slice o _ _ _ _ => o < n
  | .acc o _ => o < n
  | .isl o _ _ _ _ => o < n
  | .map o => o < n
  | .itr o => o < n
  | .func _ l => wfs n l
  | .iface _ v => AVal.wf n v
  | .agg l => wfs n l
  | .tup l => wfs n l
  | _ => True
def wfs (n : Nat) : List AVal → Prop
  | [] => True
  | a :: l => AVal.wf n a ∧ wfs n l
end

mutual
/-- No names in it. -/
def AVal.plain : AVal → Bool
  | .int .. | .bool _ | .str _ | .lit _ | .top => true
  | .agg l => plains l
  | .tup l => plains l
  | _ => false
def plains : List AVal → Bool
  | [] => true
  | a :: l => AVal.plain a && plains l
end

def AObj.wf (n : Nat) : AObj → Prop
  | .arr _ xs _ => ∀ x ∈ xs, wfs n x
  | .map es => wfs n (es.map (·.1)) ∧ wfs n (es.map (·.2))
  | .iter _ _ => True

def WfH (H : Heap) : Prop := ∀ (o : Nat) (x : AObj), H[o]? = some x → x.wf H.length

theorem wfs_iff {n : Nat} : ∀ {l : List AVal}, wfs n l ↔ ∀ a ∈ l, a.wf n
  | [] => by simp [wfs]
  | a :: l => by simp [wfs, wfs_iff (l := l)]

mutual
theorem AVal.wf_mono {n m : Nat} (h : n ≤ m) : ∀ {v : AVal}, v.wf n → v.wf m
  | .ptr .., hv => by simp only [AVal.wf] at *; omega
  | .slice .., hv => by simp only [AVal.wf] at *; omega
  | .acc .., hv => by simp only [AVal.wf] at *; omega
  | .isl .., hv => by simp only [AVal.wf] at *; omega
  | .map .., hv => by simp only [AVal.wf] at *; omega
  | .itr .., hv => by simp only [AVal.wf] at *; omega
  | .func _ l, hv => by simp only [AVal.wf] at *; exact wfs_mono h hv
  | .iface _ v, hv => by simp only [AVal.wf] at *; exact AVal.wf_mono h hv
  | .agg l, hv => by simp only [AVal.wf] at *; exact wfs_mono h hv
  | .tup l, hv => by simp only [AVal.wf] at *; exact wfs_mono h hv
  | .top, _ => by simp [AVal.wf]
  | .int .., _ => by simp [AVal.wf]
  | .bool _, _ => by simp [AVal.wf]
  | .str _, _ => by simp [AVal.wf]
  | .lit _, _ => by simp [AVal.wf]
theorem wfs_mono {n m : Nat} (h : n ≤ m) : ∀ {l : List AVal}, wfs n l → wfs m l
  | [], _ => by simp [wfs]
  | a :: l, hv => by simp only [wfs] at *; exact ⟨AVal.wf_mono h hv.1, wfs_mono h hv.2⟩
end

theorem lt_of_get {H : Heap} {o : Nat} {x : AObj} (h : H[o]? = some x) : o < H.length := (List.getElem?_eq_some_iff.1 h).1

mutual
theorem VR.wf {σ : Sig} {H : Heap} : ∀ {a : AVal} {v : Value}, VR σ H a v → a.wf H.length
  | .ptr .., _, h => by simp only [VR, AVal.wf] at *; obtain ⟨_, _, _, _, ho, _⟩ := h; exact lt_of_get ho
  | .slice .., _, h => by simp only [VR, AVal.wf] at *; obtain ⟨_, _, _, _, _, ho, _⟩ := h; exact lt_of_get ho
  | .acc .., _, h => by simp only [VR, AVal.wf] at *; obtain ⟨_, _, _, ho, _⟩ := h; exact lt_of_get ho
  | .isl .., _, h => by simp only [VR, AVal.wf] at *; obtain ⟨_, _, _, _, _, ho, _⟩ := h; exact lt_of_get ho
  | .map .., _, h => by simp only [VR, AVal.wf] at *; obtain ⟨_, _, ho⟩ := h; exact lt_of_get ho
  | .itr .., _, h => by simp only [VR, AVal.wf] at *; obtain ⟨_, _, _, ho⟩ := h; exact lt_of_get ho
  | .func _ l, _, h => by simp only [VR, AVal.wf] at *; obtain ⟨_, _, hc⟩ := h; exact VRs.wf hc
  | .iface _ v, _, h => by simp only [VR, AVal.wf] at *; obtain ⟨_, _, hc⟩ := h; exact VR.wf hc
  | .agg l, _, h => by simp only [VR, AVal.wf] at *; obtain ⟨_, _, _, hc⟩ := h; exact VRs.wf hc
  | .tup l, _, h => by simp only [VR, AVal.wf] at *; obtain ⟨_, _, hc⟩ := h; exact VRs.wf hc
  | .top, _, _ => by simp [AVal.wf]
  | .int .., _, _ => by simp [AVal.wf]
  | .bool _, _, _ => by simp [AVal.wf]
  | .str _, _, _ => by simp [AVal.wf]
  | .lit _, _, _ => by simp [AVal.wf]
theorem VRs.wf {σ : Sig} {H : Heap} : ∀ {l : List AVal} {r : List Value}, VRs σ H l r → wfs H.length l
  | [], [], _ => by simp [wfs]
  | [], _ :: _, h => by simp [VRs] at h
  | _ :: _, [], h => by simp [VRs] at h
  | a :: l, v :: r, h => by rw [VRs_cons] at h; simp only [wfs]; exact ⟨VR.wf h.1, VRs.wf h.2⟩
end

theorem RelH.wf {B : Nat} {σ : Sig} {H : Heap} {w : World} (h : RelH B σ H w) : WfH H := by
  intro o x ho
  have hr := h.obj ho
  cases x with
  | arr s xs ro =>
    obtain ⟨h1, h2, h3⟩ := hr
    intro x hx
    rw [wfs_iff]
    intro y hy
    obtain ⟨i, hi, rfl⟩ := List.mem_iff_getElem.1 hx
    obtain ⟨j, hj, rfl⟩ := List.mem_iff_getElem.1 hy
    obtain ⟨c, e, fr, hb, hc, -⟩ := h3.resolve_left (by omega)
    obtain ⟨v, -, hv⟩ := hc i _ j _ (List.getElem?_eq_getElem hi) (List.getElem?_eq_getElem hj)
    exact hv.wf
  | map es => obtain ⟨-, ms, clock, -, hk, hv⟩ := hr; exact ⟨hk.wf, hv.wf⟩
  | iter s p => trivial

mutual
/-- What lies below a number is not asked of what lies above it. -/
theorem VR.cut {σ : Sig} {H G : Heap} : ∀ {a : AVal} {v : Value}, VR σ (H ++ G) a v → a.wf H.length → VR σ H a v
  | .ptr o n i j, v, h, hw => by
    simp only [VR, AVal.wf] at *
    rw [List.getElem?_append_left hw] at h; exact h
  | .slice .., v, h, hw => by
    simp only [VR, AVal.wf] at *
    rw [List.getElem?_append_left hw] at h; exact h
  | .acc .., v, h, hw => by
    simp only [VR, AVal.wf] at *
    rw [List.getElem?_append_left hw] at h; exact h
  | .isl .., v, h, hw => by
    simp only [VR, AVal.wf] at *
    rw [List.getElem?_append_left hw] at h; exact h
  | .map .., v, h, hw => by
    simp only [VR, AVal.wf] at *
    rw [List.getElem?_append_left hw] at h; exact h
  | .itr .., v, h, hw => by
    simp only [VR, AVal.wf] at *
    rw [List.getElem?_append_left hw] at h; exact h
  | .func _ l, _, h, hw => by simp only [VR, AVal.wf] at *; obtain ⟨cs, rfl, hc⟩ := h; exact ⟨cs, rfl, VRs.cut hc hw⟩
  | .iface _ v, _, h, hw => by simp only [VR, AVal.wf] at *; obtain ⟨cs, rfl, hc⟩ := h; exact ⟨cs, rfl, VR.cut hc hw⟩
  | .agg l, _, h, hw => by simp only [VR, AVal.wf] at *; obtain ⟨ha, cs, rfl, hc⟩ := h; exact ⟨ha, cs, rfl, VRs.cut hc hw⟩
  | .tup l, _, h, hw => by simp only [VR, AVal.wf] at *; obtain ⟨cs, rfl, hc⟩ := h; exact ⟨cs, rfl, VRs.cut hc hw⟩
  | .top, _, _, _ => by simp [VR]
  | .int .., _, h, _ => by simpa only [VR] using h
  | .bool _, _, h, _ => by simpa only [VR] using h
  | .str _, _, h, _ => by simpa only [VR] using h
  | .lit _, _, h, _ => by simpa only [VR] using h
theorem VRs.cut {σ : Sig} {H G : Heap} : ∀ {l : List AVal} {r : List Value}, VRs σ (H ++ G) l r → wfs H.length l → VRs σ H l r
  | [], [], _, _ => by simp
  | [], _ :: _, h, _ => by simp [VRs] at h
  | _ :: _, [], h, _ => by simp [VRs] at h
  | a :: l, v :: r, h, hw => by
    rw [VRs_cons] at h ⊢
    simp only [wfs] at hw
    exact ⟨VR.cut h.1 hw.1, VRs.cut h.2 hw.2⟩
end

theorem RelH.cut {B : Nat} {σ : Sig} {H G : Heap} {w : World} (h : RelH B σ (H ++ G) w) (hw : WfH H) : RelH B σ H w := by
  have up : ∀ {o : Nat} {x : AObj}, H[o]? = some x → (H ++ G)[o]? = some x := fun ho => by rw [List.getElem?_append_left (lt_of_get ho)]; exact ho
  refine ⟨fun {o x} ho => ?_, fun ho ho' => h.apart (up ho) (up ho'), h.base⟩
  have hr := h.obj (up ho)
  have hwx := hw o x ho
  cases x with
  | arr s xs ro =>
    obtain ⟨h1, h2, h3⟩ := hr
    refine ⟨h1, h2, h3.imp id ?_⟩
    rintro ⟨c, e, fr, hb, hc, hn, hr⟩
    refine ⟨c, e, fr, hb, fun i x' j a hi hj => ?_, hn, hr⟩
    obtain ⟨v, hv, hrv⟩ := hc i x' j a hi hj
    exact ⟨v, hv, hrv.cut (wfs_iff.1 (hwx x' (List.mem_of_getElem? hi)) a (List.mem_of_getElem? hj))⟩
  | map es =>
    obtain ⟨h1, ms, clock, hb, hk, hv⟩ := hr
    exact ⟨h1, ms, clock, hb, hk.cut hwx.1, hv.cut hwx.2⟩
  | iter s p => exact hr

theorem Ext.cut {σ0 σ : Sig} {H0 H G : Heap} (h : Ext σ0 H0 σ (H ++ G)) (hl : H0.length ≤ H.length) : Ext σ0 H0 σ H := by
  have dn : ∀ {o : Nat} {x y : AObj}, H0[o]? = some y → (H ++ G)[o]? = some x → H[o]? = some x := fun h0 h1 => by
    have := lt_of_get h0
    rwa [List.getElem?_append_left (by omega)] at h1
  refine ⟨hl, fun ho => ?_, fun ho => ?_, fun ho => ?_⟩
  · obtain ⟨xs', h1, h2⟩ := h.arr ho
    exact ⟨xs', dn ho h1, h2⟩
  · obtain ⟨⟨es, h1⟩, h2⟩ := h.map ho
    exact ⟨⟨es, dn ho h1⟩, h2⟩
  · obtain ⟨⟨s, p, h1⟩, h2⟩ := h.iter ho
    exact ⟨⟨s, p, dn ho h1⟩, h2⟩

/-- At a loop's head objects may be let go. -/
theorem ALoop.cut {P : Program} {n0 : Nat} {c : ACode} {Q : Exit → St → Prop} {T : List AVal} {H G : Heap} (hn : n0 ≤ H.length) (hT : wfs H.length T) (hH : WfH H) (h : ALoop P n0 c Q ⟨T, H⟩) : ALoop P n0 c Q ⟨T, H ++ G⟩ :=
  fun code hok B σ0 H0 w0 σ a w e hh => h code hok B σ0 H0 w0 σ a w e ⟨hh.rel.cut hH, hh.tmps.cut hT, hh.ext.cut (by omega), hh.below, hh.defers⟩

/-- At a loop's head all names are of objects that are there. -/
theorem ALoop.wf {P : Program} {n0 : Nat} {c : ACode} {Q : Exit → St → Prop} {s : St} (h : WfH s.H → wfs s.H.length s.T → n0 ≤ s.H.length → ALoop P n0 c Q s) : ALoop P n0 c Q s :=
  fun code hok B σ0 H0 w0 σ a w e hh => h hh.rel.wf hh.tmps.wf (by rw [← e]; exact hh.ext.size) code hok B σ0 H0 w0 σ a w e hh

/-- Behind a call objects may be let go. -/
theorem ACalls.cut {P : Program} {f : FuncId} {args : List AVal} {H : Heap} {K : AVal → Heap → Prop}
    (h : ACalls P f args H fun v H' => ∃ H1 G, H' = H1 ++ G ∧ H.length ≤ H1.length ∧ v.wf H1.length ∧ (WfH H → WfH H1) ∧ K v H1) : ACalls P f args H K :=
  fun B σ w vs hR hV => (h B σ w vs hR hV).mono fun _ _ ⟨x, σ', v, _, he, ⟨H1, G, rfl, hl, hv, hw, hK⟩, hR', hx, hext, hb⟩ =>
    ⟨x, σ', v, H1, he, hK, hR'.cut (hw hR.wf), hx.cut hv, hext.cut hl, hb⟩

/-- All names in a call are of objects that are there. -/
theorem ACalls.wf {P : Program} {f : FuncId} {args : List AVal} {H : Heap} {K : AVal → Heap → Prop} (h : WfH H → wfs H.length args → ACalls P f args H K) : ACalls P f args H K :=
  fun B σ w vs hR hV => h hR.wf hV.wf B σ w vs hR hV

mutual
theorem wf_of_flat {n : Nat} : ∀ {v : AVal}, v.plain = true → v.wf n
  | .int .., _ => by simp [AVal.wf]
  | .bool _, _ => by simp [AVal.wf]
  | .str _, _ => by simp [AVal.wf]
  | .lit _, _ => by simp [AVal.wf]
  | .top, _ => by simp [AVal.wf]
  | .agg l, h => by simp only [AVal.plain] at h; simp only [AVal.wf]; exact wfs_of_flat h
  | .tup l, h => by simp only [AVal.plain] at h; simp only [AVal.wf]; exact wfs_of_flat h
  | .ptr .., h => by simp [AVal.plain] at h
  | .slice .., h => by simp [AVal.plain] at h
  | .acc .., h => by simp [AVal.plain] at h
  | .isl .., h => by simp [AVal.plain] at h
  | .map .., h => by simp [AVal.plain] at h
  | .itr .., h => by simp [AVal.plain] at h
  | .func .., h => by simp [AVal.plain] at h
  | .iface .., h => by simp [AVal.plain] at h
theorem wfs_of_flat {n : Nat} : ∀ {l : List AVal}, plains l = true → wfs n l
  | [], _ => by simp [wfs]
  | a :: l, h => by simp only [plains, Bool.and_eq_true] at h; simp only [wfs]; exact ⟨wf_of_flat h.1, wfs_of_flat h.2⟩
end

/-- Behind a call that yields a value without names all new objects may be let go. -/
theorem ACalls.clean {P : Program} {f : FuncId} {args : List AVal} {H : Heap} {K : AVal → Heap → Prop} (h : ACalls P f args H fun v H' => v.plain = true ∧ ∃ H1 G, H' = H1 ++ G ∧ H.length ≤ H1.length ∧ (WfH H → WfH H1) ∧ K v H1) : ACalls P f args H K :=
  ACalls.cut (h.mono fun v H' ⟨hv, H1, G, e, hl, hw, hk⟩ => ⟨H1, G, e, hl, wf_of_flat hv, hw, hk⟩)

end Go.Ax
