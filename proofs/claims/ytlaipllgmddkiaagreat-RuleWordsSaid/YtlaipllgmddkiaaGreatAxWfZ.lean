/- Names in values, and letting objects go. Conditions: none. -/
import Derived.Test.YtlaipllgmddkiaaGreatAxMemZ
set_option linter.unusedSimpArgs false
set_option linter.unusedVariables false
set_option linter.defProp false
namespace Go.Ax
open Go Go.RowKit
mutual
def AVal.wf (n : Nat) : AVal → Prop
 | .ptr o _ _ _ => o < n
 | .slice o _ _ _ _ => o < n
 | .acc o _ => o < n
 | .isl o _ _ _ _ => o < n
 | .map o => o < n
 | .itr o => o < n
 | .func _ l => wfs n l
 | .iface _ v => AVal.wf n v
 | .agg l => wfs n l
 | .tup l => wfs n l
 | _ => True
def wfs (n : Nat) : List AVal → Prop
 | [] => True
 | a :: l => AVal.wf n a ∧ wfs n l
end
mutual
def AVal.plain : AVal → Bool
 | .int .. | .bool _ | .str _ | .lit _ | .top => true
 | .agg l => plains l
 | .tup l => plains l
 | _ => false
def plains : List AVal → Bool
 | [] => true
 | a :: l => AVal.plain a && plains l
end
def AObj.wf (n : Nat) : AObj → Prop
 | .arr _ xs _ => ∀ x ∈ xs, wfs n x
 | .map es => wfs n (es.map (·.1)) ∧ wfs n (es.map (·.2))
 | .iter _ _ => True
 | .ghost => True
def WfH (H : Heap) : Prop := ∀ (o : Nat) (x : AObj), H[o]? = some x → x.wf H.length
theorem wfs_iff {n : Nat} : ∀ {l : List AVal}, wfs n l ↔ ∀ a ∈ l, a.wf n
 | [] => by simp [wfs]
 | a :: l => by simp [wfs, wfs_iff (l := l)]
mutual
theorem AVal.wf_mono {n m : Nat} (h : n ≤ m) : ∀ {v : AVal}, v.wf n → v.wf m
 | .ptr .., hv => by simp only [AVal.wf] at *; omega
 | .slice .., hv => by simp only [AVal.wf] at *; omega
 | .acc .., hv => by simp only [AVal.wf] at *; omega
 | .isl .., hv => by simp only [AVal.wf] at *; omega
 | .map .., hv => by simp only [AVal.wf] at *; omega
 | .itr .., hv => by simp only [AVal.wf] at *; omega
 | .func _ l, hv => by simp only [AVal.wf] at *; exact wfs_mono h hv
 | .iface _ v, hv => by simp only [AVal.wf] at *; exact AVal.wf_mono h hv
 | .agg l, hv => by simp only [AVal.wf] at *; exact wfs_mono h hv
 | .tup l, hv => by simp only [AVal.wf] at *; exact wfs_mono h hv
 | .top, _ => by simp [AVal.wf]
 | .int .., _ => by simp [AVal.wf]
 | .bool _, _ => by simp [AVal.wf]
 | .str _, _ => by simp [AVal.wf]
 | .lit _, _ => by simp [AVal.wf]
theorem wfs_mono {n m : Nat} (h : n ≤ m) : ∀ {l : List AVal}, wfs n l → wfs m l
 | [], _ => by simp [wfs]
 | a :: l, hv => by simp only [wfs] at *; exact ⟨AVal.wf_mono h hv.1, wfs_mono h hv.2⟩
end
theorem lt_of_get {H : Heap} {o : Nat} {x : AObj} (h : H[o]? = some x) : o < H.length := (List.getElem?_eq_some_iff.1 h).1
mutual
theorem VR.wf {σ : Sig} {H : Heap} : ∀ {a : AVal} {v : Value}, VR σ H a v → a.wf H.length
 | .ptr .., _, h => by simp only [VR, AVal.wf] at *; obtain ⟨_, _, _, _, ho, _⟩ := h; exact lt_of_get ho
 | .slice .., _, h => by simp only [VR, AVal.wf] at *; obtain ⟨_, _, _, _, _, ho, _⟩ := h; exact lt_of_get ho
 | .acc .., _, h => by simp only [VR, AVal.wf] at *; obtain ⟨_, _, _, ho, _⟩ := h; exact lt_of_get ho
 | .isl .., _, h => by simp only [VR, AVal.wf] at *; obtain ⟨_, _, _, _, _, ho, _⟩ := h; exact lt_of_get ho
 | .map .., _, h => by simp only [VR, AVal.wf] at *; obtain ⟨_, _, ho⟩ := h; exact lt_of_get ho
 | .itr .., _, h => by simp only [VR, AVal.wf] at *; obtain ⟨_, _, _, ho⟩ := h; exact lt_of_get ho
 | .func _ l, _, h => by simp only [VR, AVal.wf] at *; obtain ⟨_, _, hc⟩ := h; exact VRs.wf hc
 | .iface _ v, _, h => by simp only [VR, AVal.wf] at *; obtain ⟨_, _, hc⟩ := h; exact VR.wf hc
 | .agg l, _, h => by simp only [VR, AVal.wf] at *; obtain ⟨_, _, _, hc⟩ := h; exact VRs.wf hc
 | .tup l, _, h => by simp only [VR, AVal.wf] at *; obtain ⟨_, _, hc⟩ := h; exact VRs.wf hc
 | .top, _, _ => by simp [AVal.wf]
 | .int .., _, _ => by simp [AVal.wf]
 | .bool _, _, _ => by simp [AVal.wf]
 | .str _, _, _ => by simp [AVal.wf]
 | .lit _, _, _ => by simp [AVal.wf]
theorem VRs.wf {σ : Sig} {H : Heap} : ∀ {l : List AVal} {r : List Value}, VRs σ H l r → wfs H.length l
 | [], [], _ => by simp [wfs]
 | [], _ :: _, h => by simp [VRs] at h
 | _ :: _, [], h => by simp [VRs] at h
 | a :: l, v :: r, h => by rw [VRs_cons] at h; simp only [wfs]; exact ⟨VR.wf h.1, VRs.wf h.2⟩
end
theorem RelH.wf {B : Nat → Prop} {σ : Sig} {H : Heap} {w : World} (h : RelH B σ H w) : WfH H := by
 intro o x ho
 have hr := h.obj ho
 cases x with
 | arr s xs ro =>
  obtain ⟨h1, h2, h3⟩ := hr
  intro x hx
  rw [wfs_iff]
  intro y hy
  obtain ⟨i, hi, rfl⟩ := List.mem_iff_getElem.1 hx
  obtain ⟨j, hj, rfl⟩ := List.mem_iff_getElem.1 hy
  obtain ⟨c, e, fr, hb, hc, -⟩ := h3.resolve_left (by omega)
  obtain ⟨v, -, hv⟩ := hc i _ j _ (List.getElem?_eq_getElem hi) (List.getElem?_eq_getElem hj)
  exact hv.wf
 | map es => obtain ⟨-, ms, clock, -, hk, hv⟩ := hr; exact ⟨hk.wf, hv.wf⟩
 | iter s p => trivial
 | ghost => trivial
mutual
theorem VR.cut {σ : Sig} {H G : Heap} : ∀ {a : AVal} {v : Value}, VR σ (H ++ G) a v → a.wf H.length → VR σ H a v
 | .ptr o n i j, v, h, hw => by
  simp only [VR, AVal.wf] at *
  rw [List.getElem?_append_left hw] at h; exact h
 | .slice .., v, h, hw => by
  simp only [VR, AVal.wf] at *
  rw [List.getElem?_append_left hw] at h; exact h
 | .acc .., v, h, hw => by
  simp only [VR, AVal.wf] at *
  rw [List.getElem?_append_left hw] at h; exact h
 | .isl .., v, h, hw => by
  simp only [VR, AVal.wf] at *
  rw [List.getElem?_append_left hw] at h; exact h
 | .map .., v, h, hw => by
  simp only [VR, AVal.wf] at *
  rw [List.getElem?_append_left hw] at h; exact h
 | .itr .., v, h, hw => by
  simp only [VR, AVal.wf] at *
  rw [List.getElem?_append_left hw] at h; exact h
 | .func _ l, _, h, hw => by simp only [VR, AVal.wf] at *; obtain ⟨cs, rfl, hc⟩ := h; exact ⟨cs, rfl, VRs.cut hc hw⟩
 | .iface _ v, _, h, hw => by simp only [VR, AVal.wf] at *; obtain ⟨cs, rfl, hc⟩ := h; exact ⟨cs, rfl, VR.cut hc hw⟩
 | .agg l, _, h, hw => by simp only [VR, AVal.wf] at *; obtain ⟨ha, cs, rfl, hc⟩ := h; exact ⟨ha, cs, rfl, VRs.cut hc hw⟩
 | .tup l, _, h, hw => by simp only [VR, AVal.wf] at *; obtain ⟨cs, rfl, hc⟩ := h; exact ⟨cs, rfl, VRs.cut hc hw⟩
 | .top, _, _, _ => by simp [VR]
 | .int .., _, h, _ => by simpa only [VR] using h
 | .bool _, _, h, _ => by simpa only [VR] using h
 | .str _, _, h, _ => by simpa only [VR] using h
 | .lit _, _, h, _ => by simpa only [VR] using h
theorem VRs.cut {σ : Sig} {H G : Heap} : ∀ {l : List AVal} {r : List Value}, VRs σ (H ++ G) l r → wfs H.length l → VRs σ H l r
 | [], [], _, _ => by simp
 | [], _ :: _, h, _ => by simp [VRs] at h
 | _ :: _, [], h, _ => by simp [VRs] at h
 | a :: l, v :: r, h, hw => by
  rw [VRs_cons] at h ⊢
  simp only [wfs] at hw
  exact ⟨VR.cut h.1 hw.1, VRs.cut h.2 hw.2⟩
end
theorem RelH.cut {B : Nat → Prop} {σ : Sig} {H G : Heap} {w : World} (h : RelH B σ (H ++ G) w) (hw : WfH H) : RelH B σ H w := by
 have up : ∀ {o : Nat} {x : AObj}, H[o]? = some x → (H ++ G)[o]? = some x := fun ho => by rw [List.getElem?_append_left (lt_of_get ho)]; exact ho
 refine ⟨fun {o x} ho => ?_, fun ho ho' => h.apart (up ho) (up ho'), h.base⟩
 have hr := h.obj (up ho)
 have hwx := hw o x ho
 cases x with
 | arr s xs ro =>
  obtain ⟨h1, h2, h3⟩ := hr
  refine ⟨h1, h2, h3.imp id ?_⟩
  rintro ⟨c, e, fr, hb, hc, hn, hr⟩
  refine ⟨c, e, fr, hb, fun i x' j a hi hj => ?_, hn, hr⟩
  obtain ⟨v, hv, hrv⟩ := hc i x' j a hi hj
  exact ⟨v, hv, hrv.cut (wfs_iff.1 (hwx x' (List.mem_of_getElem? hi)) a (List.mem_of_getElem? hj))⟩
 | map es =>
  obtain ⟨h1, ms, clock, hb, hk, hv⟩ := hr
  exact ⟨h1, ms, clock, hb, hk.cut hwx.1, hv.cut hwx.2⟩
 | iter s p => exact hr
 | ghost => trivial
theorem Ext.cut {σ0 σ : Sig} {H0 H G : Heap} (h : Ext σ0 H0 σ (H ++ G)) (hl : H0.length ≤ H.length) : Ext σ0 H0 σ H := by
 have dn : ∀ {o : Nat} {x y : AObj}, H0[o]? = some y → (H ++ G)[o]? = some x → H[o]? = some x := fun h0 h1 => by
  have := lt_of_get h0
  rwa [List.getElem?_append_left (by omega)] at h1
 refine ⟨⟨hl, fun ho => ?_, fun ho => ?_, fun ho => ?_⟩, fun ho => dn ho (h.ghost ho), fun {o s xs} ho => h.old (by rw [List.getElem?_append_left (lt_of_get ho)]; exact ho)⟩
 ·obtain ⟨xs', h1, h2⟩ := h.arr ho
  exact ⟨xs', dn ho h1, h2⟩
 ·obtain ⟨⟨es, h1⟩, h2⟩ := h.map ho
  exact ⟨⟨es, dn ho h1⟩, h2⟩
 ·obtain ⟨⟨s, p, h1⟩, h2⟩ := h.iter ho
  exact ⟨⟨s, p, dn ho h1⟩, h2⟩
mutual
theorem wf_of_flat {n : Nat} : ∀ {v : AVal}, v.plain = true → v.wf n
 | .int .., _ => by simp [AVal.wf]
 | .bool _, _ => by simp [AVal.wf]
 | .str _, _ => by simp [AVal.wf]
 | .lit _, _ => by simp [AVal.wf]
 | .top, _ => by simp [AVal.wf]
 | .agg l, h => by simp only [AVal.plain] at h; simp only [AVal.wf]; exact wfs_of_flat h
 | .tup l, h => by simp only [AVal.plain] at h; simp only [AVal.wf]; exact wfs_of_flat h
 | .ptr .., h => by simp [AVal.plain] at h
 | .slice .., h => by simp [AVal.plain] at h
 | .acc .., h => by simp [AVal.plain] at h
 | .isl .., h => by simp [AVal.plain] at h
 | .map .., h => by simp [AVal.plain] at h
 | .itr .., h => by simp [AVal.plain] at h
 | .func .., h => by simp [AVal.plain] at h
 | .iface .., h => by simp [AVal.plain] at h
theorem wfs_of_flat {n : Nat} : ∀ {l : List AVal}, plains l = true → wfs n l
 | [], _ => by simp [wfs]
 | a :: l, h => by simp only [plains, Bool.and_eq_true] at h; simp only [wfs]; exact ⟨wf_of_flat h.1, wfs_of_flat h.2⟩
end
end Go.Ax
