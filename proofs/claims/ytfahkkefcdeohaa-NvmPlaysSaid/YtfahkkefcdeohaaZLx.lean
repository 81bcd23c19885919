/- Texts put behind one another: LPlays, LPlays2. Conditions: none. -/
import Derived.Test.YtfahkkefcdeohaaSLawB3Z
import Derived.Test.YtfahkkefcdeohaaSRef2Z
set_option linter.unusedSimpArgs false
set_option linter.unusedVariables false
/- The law of plays with memories, walked. Conditions: none. -/
namespace Go.Ax.M
open Go Go.Ax
def norm (w : MemM) : MemM := { w with fuse := if 0 > w.fuse then 0 else w.fuse }
@[go_sem] theorem norm_rows (w : MemM) : (norm w).rows = w.rows := rfl
@[go_sem] theorem norm_c (w : MemM) : (norm w).c = w.c := rfl
@[go_sem] theorem norm_off (w : MemM) : (norm w).off = w.off := rfl
theorem crashM_norm (w : MemM) (l : List Int) : crashM (norm w) l = norm (crashM w l) := by
  unfold crashM
  cases h : w.off <;> simp [norm, h]
theorem burnM_norm (w : MemM) : burnM (norm w) = (norm (burnM w).1, (burnM w).2) := by
  by_cases h : 0 < w.fuse
  · have e : norm w = w := by unfold norm; rw [if_neg (by omega)]
    rw [e]
    unfold burnM
    rw [if_pos h]
    split
    · simp only
      unfold crashM
      cases w.off <;> simp [norm]
    · simp only [norm]
      rw [if_neg (by omega)]
  · have e : (norm w).fuse = 0 := by unfold norm; simp only; split <;> omega
    unfold burnM
    rw [e, if_neg (by omega), if_neg h]
    simp [norm]; intro h2; omega
theorem doneM_norm (w : MemM) (e : Int) (g : List RowM → List RowM) : doneM (norm w) e g = (norm (doneM w e g).1, (doneM w e g).2) := by
  unfold doneM
  split
  · rw [burnM_norm]
    cases (burnM w).2 <;> rfl
  · rfl
theorem storeM_norm (w : MemM) (a v : Int) : storeM (norm w) a v = (norm (storeM w a v).1, (storeM w a v).2) := doneM_norm w _ _
theorem flushM_norm (w : MemM) (r : Int) : flushM (norm w) r = (norm (flushM w r).1, (flushM w r).2) := doneM_norm w _ _
theorem fenceM_norm (w : MemM) : fenceM (norm w) = (norm (fenceM w).1, (fenceM w).2) := doneM_norm w _ _
theorem evictM_norm (w : MemM) (r : Int) : evictM (norm w) r = (norm (evictM w r).1, (evictM w r).2) := by
  unfold evictM
  show (if mayR w r = 0 then _ else _) = _
  split <;> rfl
theorem loadM_norm (w : MemM) (a : Int) : loadM (norm w) a = loadM w a := rfl
theorem swapM_norm (w : MemM) (a o v : Int) : swapM (norm w) a o v = (norm (swapM w a o v).1, (swapM w a o v).2) := by
  unfold swapM
  rw [loadM_norm, storeM_norm]
  split <;> rfl
theorem fuseM_norm (w : MemM) (calls : Int) (l : List Int) : fuseM (norm w) calls l = norm (fuseW w calls l) := by
  unfold fuseM fuseW
  cases h : w.off <;> simp [norm, h]
theorem on_norm (w : MemM) : { norm w with off := false } = norm { w with off := false } := rfl
end Go.Ax.M
namespace Go.Proofs.Ytfahkkefcdeohaa.Ax
open Go Go.Ax Go.Ax.M
set_option maxRecDepth 100000
theorem map_of' {α : Type} {f : α → List AVal} {p : α → Prop} : ∀ {xs : List (List AVal)}, (∀ x ∈ xs, ∃ a, x = f a ∧ p a) → ∃ l : List α, xs = l.map f ∧ ∀ a ∈ l, p a
  | [], _ => ⟨[], rfl, by simp⟩
  | x :: xs, h => by
    obtain ⟨a, rfl, ha⟩ := h x List.mem_cons_self
    obtain ⟨l, rfl, hl⟩ := map_of' (xs := xs) (fun y hy => h y (List.mem_cons_of_mem _ hy))
    refine ⟨a :: l, rfl, fun b hb => ?_⟩
    rcases List.mem_cons.1 hb with rfl | hb
    · exact ha
    · exact hl b hb
def ActOk (H : Heap) (a : Int × Int × Int × Int × AVal) : Prop := (-9223372036854775808 ≤ a.2.1 ∧ a.2.1 ≤ 9223372036854775807) ∧ ∃ (o : Nat) (l : List Int), a.2.2.2.2 = .slice o l.length 0 l.length false ∧ H[o]? = some (.arr 1 (ints l) true)
theorem shape_act3k {H : Heap} {k : Nat} {cs : List AVal} (hs : Shape Try.prog H (k + 3) 42 cs) : ∃ a, cs = act3C a ∧ ActOk H a := by
  obtain ⟨ass, rfl, h⟩ := hs.struct Try.underlying42
  obtain ⟨a1, ass, rfl, h1, h⟩ := shapeL_cons h
  obtain ⟨a2, ass, rfl, h2, h⟩ := shapeL_cons h
  obtain ⟨a3, ass, rfl, h3, h⟩ := shapeL_cons h
  obtain ⟨a4, ass, rfl, h4, h⟩ := shapeL_cons h
  obtain ⟨a5, ass, rfl, h5, h⟩ := shapeL_cons h
  obtain rfl := shapeL_nil h
  obtain ⟨x1, rfl, -⟩ := h1.int Try.underlying3
  obtain ⟨x2, rfl, hx⟩ := h2.int Try.underlying3
  obtain ⟨x3, rfl, -⟩ := h3.int Try.underlying25
  obtain ⟨x4, rfl, -⟩ := h4.int Try.underlying25
  obtain ⟨o, l, rfl, hl⟩ := shape_ints h5
  refine ⟨⟨x1, x2, x3, x4, _⟩, rfl, ?_, o, l, rfl, hl⟩
  simp [Lit.wf] at hx
  rw [show IntKind.i64.min = -9223372036854775808 from rfl] at hx
  exact hx
theorem arg_acts3k {H : Heap} {k : Nat} {a : AVal} (h : ArgShape Try.prog H (k + 4) 35 a) : ∃ (o : Nat) (l : List (Int × Int × Int × Int × AVal)), a = .slice o l.length 0 l.length false ∧ H[o]? = some (.arr 5 (l.map act3C) true) ∧ ∀ x ∈ l, ActOk H x := by
  obtain ⟨o, n, xs, e, ho, hl, -, h⟩ := (h.slice Try.underlying35).slice Try.underlying35
  obtain ⟨l, rfl, hp⟩ := map_of' (f := act3C) (p := ActOk H) (fun x hx => shape_act3k (h x hx))
  rw [show Try.prog.cellsOf 42 = 5 by kernel_rfl] at ho
  simp at hl; subst hl
  injection e with e _
  exact ⟨o, l, e, ho, hp⟩
end Go.Proofs.Ytfahkkefcdeohaa.Ax

/- The law of plays with memories, walked. Conditions: none. -/
namespace Go.Ax.M
open Go Go.Ax
theorem swapM_c (w : MemM) (a o v : Int) : (swapM w a o v).1.c ≤ w.c + 1 := by
  unfold swapM; split
  · exact (doneM_c (m := w) (mayW w a) (storeG a v)).2
  · simp only; omega
theorem evictM_c (w : MemM) (r : Int) : (evictM w r).1.c ≤ w.c + 1 := by
  unfold evictM; split <;> simp only <;> omega
theorem MemG.on {H : Heap} {oM oR n : Nat} {f : Bool} {kv : AVal} {m : MemM} (h : MemG H oM oR n f kv m) : MemG (memH H oM oR n f kv { m with off := false }) oM oR n f kv { m with off := false } := h.put h.len h.ok h.c0 h.c1 h.f0 h.f1 rfl
theorem MemG.lt {H : Heap} {oM oR n : Nat} {f : Bool} {kv : AVal} {m : MemM} (h : MemG H oM oR n f kv m) : oM < H.length := (List.getElem?_eq_some_iff.1 h.mem).1
theorem MemG.ltR {H : Heap} {oM oR n : Nat} {f : Bool} {kv : AVal} {m : MemM} (h : MemG H oM oR n f kv m) : oR < H.length := (List.getElem?_eq_some_iff.1 h.robj).1
end Go.Ax.M
namespace Go.Proofs.Ytfahkkefcdeohaa.Ax
open Go Go.Ax Go.Ax.M
set_option maxRecDepth 100000
set_option maxHeartbeats 4000000 in
theorem nvmPlays_law (H : Heap) (bs : List AVal) (h : ArgShapes Try.prog H 8 [3, 35] bs) : ACalls Try.prog 7 bs H fun v _ => v = .bool true := by
  obtain ⟨a1, l, rfl, h1, h⟩ := argShapes_cons h
  obtain ⟨a2, l, rfl, h2, h⟩ := argShapes_cons h
  obtain rfl := argShapes_nil h
  obtain ⟨x, rfl, -⟩ := h1.int Try.underlying3
  obtain ⟨oA, acts, rfl, hA, hOk⟩ := arg_acts3k h2
  clear h1 h2 h
  have kA := Keeps.of hA
  by_cases hx1 : x < 1
  · refine ACalls.into ok7 (Nat.le_of_ble_eq_true rfl) ?_; (try simp only [c7, wpx_of k7_0.eq_1, wpx_of k7_1.eq_1, wpx_of k7_2.eq_1, wpx_of k7_3.eq_1, wpx_of k7_4.eq_1, wpx_of k7_5.eq_1, wpx_of k7_6.eq_1, wpx_of k7_7.eq_1, wpx_of k7_8.eq_1, wpx_of k7_9.eq_1, wpx_of k7_10.eq_1, wpx_of k7_11.eq_1, wpx_of k7_12.eq_1, wpx_of k7_13.eq_1, wpx_of k7_14.eq_1, wpx_of k7_15.eq_1, wpx_of k7_16.eq_1, wpx_of k7_17.eq_1, wpx_of k7_18.eq_1, wpx_of k7_19.eq_1, wpx_of k7_20.eq_1, wpx_of k7_21.eq_1, wpx_of k7_22.eq_1, wpx_of k7_23.eq_1, wpx_of k7_24.eq_1, wpx_of k7_25.eq_1, wpx_of k7_26.eq_1, wpx_of k7_27.eq_1, wpx_of k7_28.eq_1, wpx_of k7_29.eq_1, wpx_of k7_30.eq_1, wpx_of k7_31.eq_1, wpx_of k7_33.eq_1, wpx_of k7_34.eq_1, wpx_of k7_35.eq_1, wpx_of k7_36.eq_1, wpx_of k7_37.eq_1, wpx_of k7_38.eq_1, wpx_of k7_39.eq_1, go_sem]); repeat' ((first
    | refine And.intro (Or.inr rfl) ?_
    | ((first | refine cB ?_ ?_ | refine gT ?_ ?_ | refine gF ?_ ?_ | refine dT ?_ ?_ | refine dF ?_ ?_) <;> intro hc)
    | refine awake3_spec ?_
    | refine nvm_New_bad (.inl hx1) ?_
    | refine refG_New_bad (.inl hx1) ?_) <;> try simp only [*, wpx_of k7_0.eq_1, wpx_of k7_1.eq_1, wpx_of k7_2.eq_1, wpx_of k7_3.eq_1, wpx_of k7_4.eq_1, wpx_of k7_5.eq_1, wpx_of k7_6.eq_1, wpx_of k7_7.eq_1, wpx_of k7_8.eq_1, wpx_of k7_9.eq_1, wpx_of k7_10.eq_1, wpx_of k7_11.eq_1, wpx_of k7_12.eq_1, wpx_of k7_13.eq_1, wpx_of k7_14.eq_1, wpx_of k7_15.eq_1, wpx_of k7_16.eq_1, wpx_of k7_17.eq_1, wpx_of k7_18.eq_1, wpx_of k7_19.eq_1, wpx_of k7_20.eq_1, wpx_of k7_21.eq_1, wpx_of k7_22.eq_1, wpx_of k7_23.eq_1, wpx_of k7_24.eq_1, wpx_of k7_25.eq_1, wpx_of k7_26.eq_1, wpx_of k7_27.eq_1, wpx_of k7_28.eq_1, wpx_of k7_29.eq_1, wpx_of k7_30.eq_1, wpx_of k7_31.eq_1, wpx_of k7_33.eq_1, wpx_of k7_34.eq_1, wpx_of k7_35.eq_1, wpx_of k7_36.eq_1, wpx_of k7_37.eq_1, wpx_of k7_38.eq_1, wpx_of k7_39.eq_1, go_sem])
  by_cases hx20 : 20 < x
  · refine ACalls.into ok7 (Nat.le_of_ble_eq_true rfl) ?_; (try simp only [c7, wpx_of k7_0.eq_1, wpx_of k7_1.eq_1, wpx_of k7_2.eq_1, wpx_of k7_3.eq_1, wpx_of k7_4.eq_1, wpx_of k7_5.eq_1, wpx_of k7_6.eq_1, wpx_of k7_7.eq_1, wpx_of k7_8.eq_1, wpx_of k7_9.eq_1, wpx_of k7_10.eq_1, wpx_of k7_11.eq_1, wpx_of k7_12.eq_1, wpx_of k7_13.eq_1, wpx_of k7_14.eq_1, wpx_of k7_15.eq_1, wpx_of k7_16.eq_1, wpx_of k7_17.eq_1, wpx_of k7_18.eq_1, wpx_of k7_19.eq_1, wpx_of k7_20.eq_1, wpx_of k7_21.eq_1, wpx_of k7_22.eq_1, wpx_of k7_23.eq_1, wpx_of k7_24.eq_1, wpx_of k7_25.eq_1, wpx_of k7_26.eq_1, wpx_of k7_27.eq_1, wpx_of k7_28.eq_1, wpx_of k7_29.eq_1, wpx_of k7_30.eq_1, wpx_of k7_31.eq_1, wpx_of k7_33.eq_1, wpx_of k7_34.eq_1, wpx_of k7_35.eq_1, wpx_of k7_36.eq_1, wpx_of k7_37.eq_1, wpx_of k7_38.eq_1, wpx_of k7_39.eq_1, hx20, go_sem]); repeat' ((first
    | refine And.intro (Or.inr rfl) ?_
    | ((first | refine cB ?_ ?_ | refine gT ?_ ?_ | refine gF ?_ ?_ | refine dT ?_ ?_ | refine dF ?_ ?_) <;> intro hc)
    | refine awake3_spec ?_) <;> try simp only [*, wpx_of k7_0.eq_1, wpx_of k7_1.eq_1, wpx_of k7_2.eq_1, wpx_of k7_3.eq_1, wpx_of k7_4.eq_1, wpx_of k7_5.eq_1, wpx_of k7_6.eq_1, wpx_of k7_7.eq_1, wpx_of k7_8.eq_1, wpx_of k7_9.eq_1, wpx_of k7_10.eq_1, wpx_of k7_11.eq_1, wpx_of k7_12.eq_1, wpx_of k7_13.eq_1, wpx_of k7_14.eq_1, wpx_of k7_15.eq_1, wpx_of k7_16.eq_1, wpx_of k7_17.eq_1, wpx_of k7_18.eq_1, wpx_of k7_19.eq_1, wpx_of k7_20.eq_1, wpx_of k7_21.eq_1, wpx_of k7_22.eq_1, wpx_of k7_23.eq_1, wpx_of k7_24.eq_1, wpx_of k7_25.eq_1, wpx_of k7_26.eq_1, wpx_of k7_27.eq_1, wpx_of k7_28.eq_1, wpx_of k7_29.eq_1, wpx_of k7_30.eq_1, wpx_of k7_31.eq_1, wpx_of k7_33.eq_1, wpx_of k7_34.eq_1, wpx_of k7_35.eq_1, wpx_of k7_36.eq_1, wpx_of k7_37.eq_1, wpx_of k7_38.eq_1, wpx_of k7_39.eq_1, hx20, go_sem])
  obtain ⟨n, rfl⟩ : ∃ n : Nat, x = (n : Int) := ⟨x.toNat, by omega⟩
  have hn1 : 1 ≤ n := by omega
  have hn20 : n ≤ 20 := by omega
  have hc20 : ((20 : Int) < (n : Int)) = False := eq_false hx20
  clear hx1 hx20
  refine ACalls.into ok7 (Nat.le_of_ble_eq_true rfl) ?_; (try simp only [c7, wpx_of k7_0.eq_1, wpx_of k7_1.eq_1, wpx_of k7_2.eq_1, wpx_of k7_3.eq_1, wpx_of k7_4.eq_1, wpx_of k7_5.eq_1, wpx_of k7_6.eq_1, wpx_of k7_7.eq_1, wpx_of k7_8.eq_1, wpx_of k7_9.eq_1, wpx_of k7_10.eq_1, wpx_of k7_11.eq_1, wpx_of k7_12.eq_1, wpx_of k7_13.eq_1, wpx_of k7_14.eq_1, wpx_of k7_15.eq_1, wpx_of k7_16.eq_1, wpx_of k7_17.eq_1, wpx_of k7_18.eq_1, wpx_of k7_19.eq_1, wpx_of k7_20.eq_1, wpx_of k7_21.eq_1, wpx_of k7_22.eq_1, wpx_of k7_23.eq_1, wpx_of k7_24.eq_1, wpx_of k7_25.eq_1, wpx_of k7_26.eq_1, wpx_of k7_27.eq_1, wpx_of k7_28.eq_1, wpx_of k7_29.eq_1, wpx_of k7_30.eq_1, wpx_of k7_31.eq_1, wpx_of k7_33.eq_1, wpx_of k7_34.eq_1, wpx_of k7_35.eq_1, wpx_of k7_36.eq_1, wpx_of k7_37.eq_1, wpx_of k7_38.eq_1, wpx_of k7_39.eq_1, kA, Nat.add_assoc, hc20, go_sem]); repeat' ((first
    | refine And.intro (Or.inr rfl) ?_
    | ((first | refine cB ?_ ?_ | refine gT ?_ ?_ | refine gF ?_ ?_ | refine dT ?_ ?_ | refine dF ?_ ?_) <;> intro hc)
    | refine awake3_spec ?_
    | refine nvm_New_spec hn1 (by omega) ?_
    | refine refG_New_spec hn1 (by omega) ?_) <;> try simp only [*, wpx_of k7_0.eq_1, wpx_of k7_1.eq_1, wpx_of k7_2.eq_1, wpx_of k7_3.eq_1, wpx_of k7_4.eq_1, wpx_of k7_5.eq_1, wpx_of k7_6.eq_1, wpx_of k7_7.eq_1, wpx_of k7_8.eq_1, wpx_of k7_9.eq_1, wpx_of k7_10.eq_1, wpx_of k7_11.eq_1, wpx_of k7_12.eq_1, wpx_of k7_13.eq_1, wpx_of k7_14.eq_1, wpx_of k7_15.eq_1, wpx_of k7_16.eq_1, wpx_of k7_17.eq_1, wpx_of k7_18.eq_1, wpx_of k7_19.eq_1, wpx_of k7_20.eq_1, wpx_of k7_21.eq_1, wpx_of k7_22.eq_1, wpx_of k7_23.eq_1, wpx_of k7_24.eq_1, wpx_of k7_25.eq_1, wpx_of k7_26.eq_1, wpx_of k7_27.eq_1, wpx_of k7_28.eq_1, wpx_of k7_29.eq_1, wpx_of k7_30.eq_1, wpx_of k7_31.eq_1, wpx_of k7_33.eq_1, wpx_of k7_34.eq_1, wpx_of k7_35.eq_1, wpx_of k7_36.eq_1, wpx_of k7_37.eq_1, wpx_of k7_38.eq_1, wpx_of k7_39.eq_1, kA, Nat.add_assoc, hc20, go_sem])
  have hlen80 : acts.length ≤ 80 := by omega
  refine ALoop.keep [8, 0, 1, 5, 7] ?_; simp only [List.map_cons, List.map_nil, go_sem]
  refine ALoop.acc (α := Heap × MemM × AVal × AVal) (fun k a => [(8, .int .i64 (k : Int))]) (fun k a => a.1)
    (fun k a => MemG a.1 (H.length + 1) H.length n true a.2.2.1 (norm a.2.1) ∧ MemG a.1 (H.length + 3) (H.length + 2) n true a.2.2.2 a.2.1 ∧ (∀ o x, H[o]? = some x → a.1[o]? = some x) ∧ a.2.1.c ≤ (k : Int)) acts.length ?_
    (a0 := (H ++ [rowsO (List.replicate n row0), memO H.length n true false 0, rowsO (List.replicate n row0), memO (H.length + 2) n true false 0], ⟨List.replicate n row0, false, 0, 0, []⟩, .lit (.slice none 0 0), .lit (.slice none 0 0)))
    ⟨⟨at1, at0, .inl ⟨rfl, rfl⟩, by simp [norm], fun r hr => by rw [List.eq_of_mem_replicate hr]; exact ⟨rfl, rfl⟩, by omega, by simp [norm], by simp [norm], by simp [norm], by simp [norm], by simp [norm]⟩,
      ⟨at3, at2, .inl ⟨rfl, rfl⟩, by simp, fun r hr => by rw [List.eq_of_mem_replicate hr]; exact ⟨rfl, rfl⟩, by omega, by simp, by simp, by simp, by simp, by simp⟩, fun o x ho => Keeps.of ho _, by simp⟩
  intro k a hk I next
  obtain ⟨W, w, kv, kv2⟩ := a
  obtain ⟨hp, hq, hW, I4⟩ := I
  simp only at hp hq hW I4 next ⊢
  refine ALoop.unfold ?_
  have hw := wrap_succ (k := k) (by omega)
  by_cases hks : k < acts.length
  · have hg := acts3_get hks
    have hok : ActOk H (acts.getD k (0, 0, 0, 0, .top)) := hOk _ (by simp [List.getD, hks])
    generalize acts.getD k (0, 0, 0, 0, .top) = act at hg hok
    obtain ⟨op, at_, old, v, kp⟩ := act
    obtain ⟨⟨ha0, ha1⟩, oK, l, e, hl⟩ := hok
    simp only at e ha0 ha1
    subst e
    simp only at hg
    have kA : Keeps W oA (.arr 5 (acts.map act3C) true) := Keeps.of (hW _ _ hA)
    have kA0 := kA.at
    have kL : Keeps W oK (.arr 1 (ints l) true) := Keeps.of (hW _ _ hl)
    have hoK : oK < H.length := (List.getElem?_eq_some_iff.1 hl).1
    have hk1 : ∀ L, (W ++ L)[oK]? = some (.arr 1 (ints l) true) := kL
    have hk2 : ∀ m L, (memH (W ++ L) (H.length + 1) H.length n true kv m)[oK]? = some (.arr 1 (ints l) true) := fun m L => Upd.memH _ _ (kL L) (by omega) (by omega)
    have hm1 := fun L => hp.app L
    have hm2 : ∀ m L, MemG (memH (W ++ L) (H.length + 1) H.length n true kv m) (H.length + 3) (H.length + 2) n true kv2 w := fun m L => Upd.memH.mem (hm1 L) (hq.app L) (by omega) (by omega)
    have hcn : (norm w).c + 1 ≤ 1000000 := by rw [norm_c]; omega
    have hcw : w.c + 1 ≤ 1000000 := by omega
    by_cases hbig : 40 < l.length
    · have hkl : ((40 : Int) < (l.length : Int)) = True := eq_true (by omega)
      (try simp only [wpx_of k7_0.eq_1, wpx_of k7_1.eq_1, wpx_of k7_2.eq_1, wpx_of k7_3.eq_1, wpx_of k7_4.eq_1, wpx_of k7_5.eq_1, wpx_of k7_6.eq_1, wpx_of k7_7.eq_1, wpx_of k7_8.eq_1, wpx_of k7_9.eq_1, wpx_of k7_10.eq_1, wpx_of k7_11.eq_1, wpx_of k7_12.eq_1, wpx_of k7_13.eq_1, wpx_of k7_14.eq_1, wpx_of k7_15.eq_1, wpx_of k7_16.eq_1, wpx_of k7_17.eq_1, wpx_of k7_18.eq_1, wpx_of k7_19.eq_1, wpx_of k7_20.eq_1, wpx_of k7_21.eq_1, wpx_of k7_22.eq_1, wpx_of k7_23.eq_1, wpx_of k7_24.eq_1, wpx_of k7_25.eq_1, wpx_of k7_26.eq_1, wpx_of k7_27.eq_1, wpx_of k7_28.eq_1, wpx_of k7_29.eq_1, wpx_of k7_30.eq_1, wpx_of k7_31.eq_1, wpx_of k7_33.eq_1, wpx_of k7_34.eq_1, wpx_of k7_35.eq_1, wpx_of k7_36.eq_1, wpx_of k7_37.eq_1, wpx_of k7_38.eq_1, wpx_of k7_39.eq_1, kA, kA0, hg, hw, hks, List.length_map, wpx_of b7_32.eq_1, nlt_iff, n0_le, hkl, List.cons_append, List.nil_append, go_sem]); repeat' ((first
    | refine And.intro (Or.inr rfl) ?_
    | ((first | refine cB ?_ ?_ | refine gT ?_ ?_ | refine gF ?_ ?_ | refine dT ?_ ?_ | refine dF ?_ ?_) <;> intro hc)) <;> try simp only [*, wpx_of k7_0.eq_1, wpx_of k7_1.eq_1, wpx_of k7_2.eq_1, wpx_of k7_3.eq_1, wpx_of k7_4.eq_1, wpx_of k7_5.eq_1, wpx_of k7_6.eq_1, wpx_of k7_7.eq_1, wpx_of k7_8.eq_1, wpx_of k7_9.eq_1, wpx_of k7_10.eq_1, wpx_of k7_11.eq_1, wpx_of k7_12.eq_1, wpx_of k7_13.eq_1, wpx_of k7_14.eq_1, wpx_of k7_15.eq_1, wpx_of k7_16.eq_1, wpx_of k7_17.eq_1, wpx_of k7_18.eq_1, wpx_of k7_19.eq_1, wpx_of k7_20.eq_1, wpx_of k7_21.eq_1, wpx_of k7_22.eq_1, wpx_of k7_23.eq_1, wpx_of k7_24.eq_1, wpx_of k7_25.eq_1, wpx_of k7_26.eq_1, wpx_of k7_27.eq_1, wpx_of k7_28.eq_1, wpx_of k7_29.eq_1, wpx_of k7_30.eq_1, wpx_of k7_31.eq_1, wpx_of k7_33.eq_1, wpx_of k7_34.eq_1, wpx_of k7_35.eq_1, wpx_of k7_36.eq_1, wpx_of k7_37.eq_1, wpx_of k7_38.eq_1, wpx_of k7_39.eq_1, kA, kA0, hg, hw, hks, List.length_map, wpx_of b7_32.eq_1, nlt_iff, n0_le, hkl, List.cons_append, List.nil_append, go_sem])
    have hkl : ((40 : Int) < (l.length : Int)) = False := eq_false (by omega)
    have hlw : ∀ m : MemM, m.rows.length = n → (∀ r ∈ m.rows, r.ok) → (wordsM m.rows).length ≤ 100000 := fun m h1 h2 => by rw [wordsM_len h2]; omega
    have hlo : ∀ m : MemM, m.rows.length = n → (outM m.rows).length ≤ 100000 := fun m h1 => by have := pick_length (p := fun i => (row m.rows i).out) (k := m.rows.length); unfold outM; omega
    have hWh : Hid (∀ o x, H[o]? = some x → W[o]? = some x) := hW
    clear hA hl hW
    by_cases h0 : op = 0
    · subst h0
      have hY : MemG (memH (W ++ [.arr 5 [[.int .i64 0, .int .i64 at_, .int .u64 old, .int .u64 v, .slice oK l.length 0 l.length false]] false]) (H.length + 1) H.length n true kv (norm (storeM w at_ v).1)) (H.length + 1) H.length n true kv (norm (storeM w at_ v).1) := by have := (hm1 [.arr 5 [[.int .i64 0, .int .i64 at_, .int .u64 old, .int .u64 v, .slice oK l.length 0 l.length false]] false]).store hcn at_ v; rw [storeM_norm] at this; exact this
      have hq0 : MemG (memH (memH (W ++ [.arr 5 [[.int .i64 0, .int .i64 at_, .int .u64 old, .int .u64 v, .slice oK l.length 0 l.length false]] false]) (H.length + 1) H.length n true kv (norm (storeM w at_ v).1)) (H.length + 3) (H.length + 2) n true kv2 (storeM w at_ v).1) (H.length + 3) (H.length + 2) n true kv2 (storeM w at_ v).1 := (hm2 _ _).store hcw at_ v
      have hp0 : MemG (memH (memH (W ++ [.arr 5 [[.int .i64 0, .int .i64 at_, .int .u64 old, .int .u64 v, .slice oK l.length 0 l.length false]] false]) (H.length + 1) H.length n true kv (norm (storeM w at_ v).1)) (H.length + 3) (H.length + 2) n true kv2 (storeM w at_ v).1) (H.length + 1) H.length n true kv (norm (storeM w at_ v).1) := Upd.memH.mem (hm2 _ _) hY (by omega) (by omega)
      have hcc : ((storeM w at_ v).1).c ≤ w.c + 1 := (doneM_c (m := w) (mayW w at_) (storeG at_ v)).2
      have hlen : ((storeM w at_ v).1).rows.length = n := hq0.len
      have hY9 : (memH (W ++ [.arr 5 [[.int .i64 0, .int .i64 at_, .int .u64 old, .int .u64 v, .slice oK l.length 0 l.length false]] false]) (H.length + 1) H.length n true kv (norm (storeM w at_ v).1))[W.length]? = some (.arr 5 [[.int .i64 0, .int .i64 at_, .int .u64 old, .int .u64 v, .slice oK l.length 0 l.length false]] false) := Upd.memH _ _ at0 (by have := hp.lt; omega) (by have := hp.ltR; omega)
      have hX9 : (memH (memH (W ++ [.arr 5 [[.int .i64 0, .int .i64 at_, .int .u64 old, .int .u64 v, .slice oK l.length 0 l.length false]] false]) (H.length + 1) H.length n true kv (norm (storeM w at_ v).1)) (H.length + 3) (H.length + 2) n true kv2 (storeM w at_ v).1)[W.length]? = some (.arr 5 [[.int .i64 0, .int .i64 at_, .int .u64 old, .int .u64 v, .slice oK l.length 0 l.length false]] false) := Upd.memH _ _ hY9 (by have := hq.lt; omega) (by have := hq.ltR; omega)
      have hX9k := Keeps.of hX9
      have hXc := hq0.cell
      have hXck := Keeps.of hXc
      (try simp only [wpx_of k7_0.eq_1, wpx_of k7_1.eq_1, wpx_of k7_2.eq_1, wpx_of k7_3.eq_1, wpx_of k7_4.eq_1, wpx_of k7_5.eq_1, wpx_of k7_6.eq_1, wpx_of k7_7.eq_1, wpx_of k7_8.eq_1, wpx_of k7_9.eq_1, wpx_of k7_10.eq_1, wpx_of k7_11.eq_1, wpx_of k7_12.eq_1, wpx_of k7_13.eq_1, wpx_of k7_14.eq_1, wpx_of k7_15.eq_1, wpx_of k7_16.eq_1, wpx_of k7_17.eq_1, wpx_of k7_18.eq_1, wpx_of k7_19.eq_1, wpx_of k7_20.eq_1, wpx_of k7_21.eq_1, wpx_of k7_22.eq_1, wpx_of k7_23.eq_1, wpx_of k7_24.eq_1, wpx_of k7_25.eq_1, wpx_of k7_26.eq_1, wpx_of k7_27.eq_1, wpx_of k7_28.eq_1, wpx_of k7_29.eq_1, wpx_of k7_30.eq_1, wpx_of k7_31.eq_1, wpx_of k7_33.eq_1, wpx_of k7_34.eq_1, wpx_of k7_35.eq_1, wpx_of k7_36.eq_1, wpx_of k7_37.eq_1, wpx_of k7_38.eq_1, wpx_of k7_39.eq_1, kA, kA0, hg, hw, hks, List.length_map, storeM_norm, hY9, hX9, hX9k, hXc, hXck, hlen, norm_rows, norm_c, norm_off, loadM_norm, wpx_of b7_32.eq_1, nlt_iff, n0_le, hkl, List.cons_append, List.nil_append, go_sem]); repeat' ((first
    | refine And.intro (Or.inr rfl) ?_
    | ((first | refine cB ?_ ?_ | refine gT ?_ ?_ | refine gF ?_ ?_ | refine dT ?_ ?_ | refine dF ?_ ?_) <;> intro hc)
    | refine nvmG_Store_spec (hm1 _) hcn ?_
    | refine refG_Store_spec (hm2 _ _) hcw ?_
    | refine nvmG_Load_spec hp0 ?_
    | refine refG_Load_spec hq0 ?_
    | refine nvmG_Words_spec hp0 hn1 ?_
    | refine refG_Words_spec (hq0.app _) ?_
    | refine law_words_spec at0 at1 (hlw _ hlen hq0.ok) ?_
    | refine nvmG_Out_spec (hp0.app _) ?_
    | refine refG_Out_spec (hq0.app _) ?_
    | refine law_ints_spec at2 at3 (hlo _ hlen) ?_
    | refine nvmG_Count_spec (hp0.app _) ?_
    | refine nvmG_Off_spec (hp0.app _) ?_
    | refine nvmG_Rows_spec (hp0.app _) ?_) <;> try simp only [*, wpx_of k7_0.eq_1, wpx_of k7_1.eq_1, wpx_of k7_2.eq_1, wpx_of k7_3.eq_1, wpx_of k7_4.eq_1, wpx_of k7_5.eq_1, wpx_of k7_6.eq_1, wpx_of k7_7.eq_1, wpx_of k7_8.eq_1, wpx_of k7_9.eq_1, wpx_of k7_10.eq_1, wpx_of k7_11.eq_1, wpx_of k7_12.eq_1, wpx_of k7_13.eq_1, wpx_of k7_14.eq_1, wpx_of k7_15.eq_1, wpx_of k7_16.eq_1, wpx_of k7_17.eq_1, wpx_of k7_18.eq_1, wpx_of k7_19.eq_1, wpx_of k7_20.eq_1, wpx_of k7_21.eq_1, wpx_of k7_22.eq_1, wpx_of k7_23.eq_1, wpx_of k7_24.eq_1, wpx_of k7_25.eq_1, wpx_of k7_26.eq_1, wpx_of k7_27.eq_1, wpx_of k7_28.eq_1, wpx_of k7_29.eq_1, wpx_of k7_30.eq_1, wpx_of k7_31.eq_1, wpx_of k7_33.eq_1, wpx_of k7_34.eq_1, wpx_of k7_35.eq_1, wpx_of k7_36.eq_1, wpx_of k7_37.eq_1, wpx_of k7_38.eq_1, wpx_of k7_39.eq_1, kA, kA0, hg, hw, hks, List.length_map, storeM_norm, hY9, hX9, hX9k, hXc, hXck, hlen, norm_rows, norm_c, norm_off, loadM_norm, wpx_of b7_32.eq_1, nlt_iff, n0_le, hkl, List.cons_append, List.nil_append, go_sem])
      have hb : (storeM w at_ v).1.c ≤ ((k + 1 : Nat) : Int) := by omega
      have hF : ∀ o x, H[o]? = some x → ∀ L, ((memH (memH (W ++ [.arr 5 [[.int .i64 0, .int .i64 at_, .int .u64 old, .int .u64 v, .slice oK l.length 0 l.length false]] false]) (H.length + 1) H.length n true kv (norm (storeM w at_ v).1)) (H.length + 3) (H.length + 2) n true kv2 (storeM w at_ v).1) ++ L)[o]? = some x := fun o x ho L => by
        have hlt := (List.getElem?_eq_some_iff.1 ho).1
        have hWh : ∀ o x, H[o]? = some x → W[o]? = some x := hWh
        exact Keeps.of (Upd.memH _ _ (Upd.memH _ _ (Keeps.of (hWh o x ho) _) (by omega) (by omega)) (by omega) (by omega)) L
      (refine ALoop.keep [8, 0, 1, 5, 7] ?_; simp only [List.map_cons, List.map_nil, go_sem]; refine next (_, (storeM w at_ v).1, kv, kv2) hks ⟨hp0.app _, hq0.app _, fun o x ho => hF o x ho _, hb⟩)
    by_cases h1 : op = 1
    · subst h1
      have hY : MemG (memH (W ++ [.arr 5 [[.int .i64 1, .int .i64 at_, .int .u64 old, .int .u64 v, .slice oK l.length 0 l.length false]] false]) (H.length + 1) H.length n true kv (norm (swapM w at_ old v).1)) (H.length + 1) H.length n true kv (norm (swapM w at_ old v).1) := by have := (hm1 [.arr 5 [[.int .i64 1, .int .i64 at_, .int .u64 old, .int .u64 v, .slice oK l.length 0 l.length false]] false]).swap hcn at_ old v; rw [swapM_norm] at this; exact this
      have hq0 : MemG (memH (memH (W ++ [.arr 5 [[.int .i64 1, .int .i64 at_, .int .u64 old, .int .u64 v, .slice oK l.length 0 l.length false]] false]) (H.length + 1) H.length n true kv (norm (swapM w at_ old v).1)) (H.length + 3) (H.length + 2) n true kv2 (swapM w at_ old v).1) (H.length + 3) (H.length + 2) n true kv2 (swapM w at_ old v).1 := (hm2 _ _).swap hcw at_ old v
      have hp0 : MemG (memH (memH (W ++ [.arr 5 [[.int .i64 1, .int .i64 at_, .int .u64 old, .int .u64 v, .slice oK l.length 0 l.length false]] false]) (H.length + 1) H.length n true kv (norm (swapM w at_ old v).1)) (H.length + 3) (H.length + 2) n true kv2 (swapM w at_ old v).1) (H.length + 1) H.length n true kv (norm (swapM w at_ old v).1) := Upd.memH.mem (hm2 _ _) hY (by omega) (by omega)
      have hcc : ((swapM w at_ old v).1).c ≤ w.c + 1 := swapM_c w at_ old v
      have hlen : ((swapM w at_ old v).1).rows.length = n := hq0.len
      have hY9 : (memH (W ++ [.arr 5 [[.int .i64 1, .int .i64 at_, .int .u64 old, .int .u64 v, .slice oK l.length 0 l.length false]] false]) (H.length + 1) H.length n true kv (norm (swapM w at_ old v).1))[W.length]? = some (.arr 5 [[.int .i64 1, .int .i64 at_, .int .u64 old, .int .u64 v, .slice oK l.length 0 l.length false]] false) := Upd.memH _ _ at0 (by have := hp.lt; omega) (by have := hp.ltR; omega)
      have hX9 : (memH (memH (W ++ [.arr 5 [[.int .i64 1, .int .i64 at_, .int .u64 old, .int .u64 v, .slice oK l.length 0 l.length false]] false]) (H.length + 1) H.length n true kv (norm (swapM w at_ old v).1)) (H.length + 3) (H.length + 2) n true kv2 (swapM w at_ old v).1)[W.length]? = some (.arr 5 [[.int .i64 1, .int .i64 at_, .int .u64 old, .int .u64 v, .slice oK l.length 0 l.length false]] false) := Upd.memH _ _ hY9 (by have := hq.lt; omega) (by have := hq.ltR; omega)
      have hX9k := Keeps.of hX9
      have hXc := hq0.cell
      have hXck := Keeps.of hXc
      (try simp only [wpx_of k7_0.eq_1, wpx_of k7_1.eq_1, wpx_of k7_2.eq_1, wpx_of k7_3.eq_1, wpx_of k7_4.eq_1, wpx_of k7_5.eq_1, wpx_of k7_6.eq_1, wpx_of k7_7.eq_1, wpx_of k7_8.eq_1, wpx_of k7_9.eq_1, wpx_of k7_10.eq_1, wpx_of k7_11.eq_1, wpx_of k7_12.eq_1, wpx_of k7_13.eq_1, wpx_of k7_14.eq_1, wpx_of k7_15.eq_1, wpx_of k7_16.eq_1, wpx_of k7_17.eq_1, wpx_of k7_18.eq_1, wpx_of k7_19.eq_1, wpx_of k7_20.eq_1, wpx_of k7_21.eq_1, wpx_of k7_22.eq_1, wpx_of k7_23.eq_1, wpx_of k7_24.eq_1, wpx_of k7_25.eq_1, wpx_of k7_26.eq_1, wpx_of k7_27.eq_1, wpx_of k7_28.eq_1, wpx_of k7_29.eq_1, wpx_of k7_30.eq_1, wpx_of k7_31.eq_1, wpx_of k7_33.eq_1, wpx_of k7_34.eq_1, wpx_of k7_35.eq_1, wpx_of k7_36.eq_1, wpx_of k7_37.eq_1, wpx_of k7_38.eq_1, wpx_of k7_39.eq_1, kA, kA0, hg, hw, hks, List.length_map, swapM_norm, hY9, hX9, hX9k, hXc, hXck, hlen, norm_rows, norm_c, norm_off, loadM_norm, wpx_of b7_32.eq_1, nlt_iff, n0_le, hkl, List.cons_append, List.nil_append, go_sem]); repeat' ((first
    | refine And.intro (Or.inr rfl) ?_
    | ((first | refine cB ?_ ?_ | refine gT ?_ ?_ | refine gF ?_ ?_ | refine dT ?_ ?_ | refine dF ?_ ?_) <;> intro hc)
    | refine nvmG_Swap_spec (hm1 _) hcn ?_
    | refine refG_Swap_spec (hm2 _ _) hcw ?_
    | refine nvmG_Load_spec hp0 ?_
    | refine refG_Load_spec hq0 ?_
    | refine nvmG_Words_spec hp0 hn1 ?_
    | refine refG_Words_spec (hq0.app _) ?_
    | refine law_words_spec at0 at1 (hlw _ hlen hq0.ok) ?_
    | refine nvmG_Out_spec (hp0.app _) ?_
    | refine refG_Out_spec (hq0.app _) ?_
    | refine law_ints_spec at2 at3 (hlo _ hlen) ?_
    | refine nvmG_Count_spec (hp0.app _) ?_
    | refine nvmG_Off_spec (hp0.app _) ?_
    | refine nvmG_Rows_spec (hp0.app _) ?_) <;> try simp only [*, wpx_of k7_0.eq_1, wpx_of k7_1.eq_1, wpx_of k7_2.eq_1, wpx_of k7_3.eq_1, wpx_of k7_4.eq_1, wpx_of k7_5.eq_1, wpx_of k7_6.eq_1, wpx_of k7_7.eq_1, wpx_of k7_8.eq_1, wpx_of k7_9.eq_1, wpx_of k7_10.eq_1, wpx_of k7_11.eq_1, wpx_of k7_12.eq_1, wpx_of k7_13.eq_1, wpx_of k7_14.eq_1, wpx_of k7_15.eq_1, wpx_of k7_16.eq_1, wpx_of k7_17.eq_1, wpx_of k7_18.eq_1, wpx_of k7_19.eq_1, wpx_of k7_20.eq_1, wpx_of k7_21.eq_1, wpx_of k7_22.eq_1, wpx_of k7_23.eq_1, wpx_of k7_24.eq_1, wpx_of k7_25.eq_1, wpx_of k7_26.eq_1, wpx_of k7_27.eq_1, wpx_of k7_28.eq_1, wpx_of k7_29.eq_1, wpx_of k7_30.eq_1, wpx_of k7_31.eq_1, wpx_of k7_33.eq_1, wpx_of k7_34.eq_1, wpx_of k7_35.eq_1, wpx_of k7_36.eq_1, wpx_of k7_37.eq_1, wpx_of k7_38.eq_1, wpx_of k7_39.eq_1, kA, kA0, hg, hw, hks, List.length_map, swapM_norm, hY9, hX9, hX9k, hXc, hXck, hlen, norm_rows, norm_c, norm_off, loadM_norm, wpx_of b7_32.eq_1, nlt_iff, n0_le, hkl, List.cons_append, List.nil_append, go_sem])
      have hb : (swapM w at_ old v).1.c ≤ ((k + 1 : Nat) : Int) := by omega
      have hF : ∀ o x, H[o]? = some x → ∀ L, ((memH (memH (W ++ [.arr 5 [[.int .i64 1, .int .i64 at_, .int .u64 old, .int .u64 v, .slice oK l.length 0 l.length false]] false]) (H.length + 1) H.length n true kv (norm (swapM w at_ old v).1)) (H.length + 3) (H.length + 2) n true kv2 (swapM w at_ old v).1) ++ L)[o]? = some x := fun o x ho L => by
        have hlt := (List.getElem?_eq_some_iff.1 ho).1
        have hWh : ∀ o x, H[o]? = some x → W[o]? = some x := hWh
        exact Keeps.of (Upd.memH _ _ (Upd.memH _ _ (Keeps.of (hWh o x ho) _) (by omega) (by omega)) (by omega) (by omega)) L
      (refine ALoop.keep [8, 0, 1, 5, 7] ?_; simp only [List.map_cons, List.map_nil, go_sem]; refine next (_, (swapM w at_ old v).1, kv, kv2) hks ⟨hp0.app _, hq0.app _, fun o x ho => hF o x ho _, hb⟩)
    by_cases h2 : op = 2
    · subst h2
      have hY : MemG (memH (W ++ [.arr 5 [[.int .i64 2, .int .i64 at_, .int .u64 old, .int .u64 v, .slice oK l.length 0 l.length false]] false]) (H.length + 1) H.length n true kv (norm (flushM w at_).1)) (H.length + 1) H.length n true kv (norm (flushM w at_).1) := by have := (hm1 [.arr 5 [[.int .i64 2, .int .i64 at_, .int .u64 old, .int .u64 v, .slice oK l.length 0 l.length false]] false]).flush hcn at_; rw [flushM_norm] at this; exact this
      have hq0 : MemG (memH (memH (W ++ [.arr 5 [[.int .i64 2, .int .i64 at_, .int .u64 old, .int .u64 v, .slice oK l.length 0 l.length false]] false]) (H.length + 1) H.length n true kv (norm (flushM w at_).1)) (H.length + 3) (H.length + 2) n true kv2 (flushM w at_).1) (H.length + 3) (H.length + 2) n true kv2 (flushM w at_).1 := (hm2 _ _).flush hcw at_
      have hp0 : MemG (memH (memH (W ++ [.arr 5 [[.int .i64 2, .int .i64 at_, .int .u64 old, .int .u64 v, .slice oK l.length 0 l.length false]] false]) (H.length + 1) H.length n true kv (norm (flushM w at_).1)) (H.length + 3) (H.length + 2) n true kv2 (flushM w at_).1) (H.length + 1) H.length n true kv (norm (flushM w at_).1) := Upd.memH.mem (hm2 _ _) hY (by omega) (by omega)
      have hcc : ((flushM w at_).1).c ≤ w.c + 1 := (doneM_c (m := w) (mayR w at_) (flushG at_)).2
      have hlen : ((flushM w at_).1).rows.length = n := hq0.len
      have hY9 : (memH (W ++ [.arr 5 [[.int .i64 2, .int .i64 at_, .int .u64 old, .int .u64 v, .slice oK l.length 0 l.length false]] false]) (H.length + 1) H.length n true kv (norm (flushM w at_).1))[W.length]? = some (.arr 5 [[.int .i64 2, .int .i64 at_, .int .u64 old, .int .u64 v, .slice oK l.length 0 l.length false]] false) := Upd.memH _ _ at0 (by have := hp.lt; omega) (by have := hp.ltR; omega)
      have hX9 : (memH (memH (W ++ [.arr 5 [[.int .i64 2, .int .i64 at_, .int .u64 old, .int .u64 v, .slice oK l.length 0 l.length false]] false]) (H.length + 1) H.length n true kv (norm (flushM w at_).1)) (H.length + 3) (H.length + 2) n true kv2 (flushM w at_).1)[W.length]? = some (.arr 5 [[.int .i64 2, .int .i64 at_, .int .u64 old, .int .u64 v, .slice oK l.length 0 l.length false]] false) := Upd.memH _ _ hY9 (by have := hq.lt; omega) (by have := hq.ltR; omega)
      have hX9k := Keeps.of hX9
      have hXc := hq0.cell
      have hXck := Keeps.of hXc
      (try simp only [wpx_of k7_0.eq_1, wpx_of k7_1.eq_1, wpx_of k7_2.eq_1, wpx_of k7_3.eq_1, wpx_of k7_4.eq_1, wpx_of k7_5.eq_1, wpx_of k7_6.eq_1, wpx_of k7_7.eq_1, wpx_of k7_8.eq_1, wpx_of k7_9.eq_1, wpx_of k7_10.eq_1, wpx_of k7_11.eq_1, wpx_of k7_12.eq_1, wpx_of k7_13.eq_1, wpx_of k7_14.eq_1, wpx_of k7_15.eq_1, wpx_of k7_16.eq_1, wpx_of k7_17.eq_1, wpx_of k7_18.eq_1, wpx_of k7_19.eq_1, wpx_of k7_20.eq_1, wpx_of k7_21.eq_1, wpx_of k7_22.eq_1, wpx_of k7_23.eq_1, wpx_of k7_24.eq_1, wpx_of k7_25.eq_1, wpx_of k7_26.eq_1, wpx_of k7_27.eq_1, wpx_of k7_28.eq_1, wpx_of k7_29.eq_1, wpx_of k7_30.eq_1, wpx_of k7_31.eq_1, wpx_of k7_33.eq_1, wpx_of k7_34.eq_1, wpx_of k7_35.eq_1, wpx_of k7_36.eq_1, wpx_of k7_37.eq_1, wpx_of k7_38.eq_1, wpx_of k7_39.eq_1, kA, kA0, hg, hw, hks, List.length_map, flushM_norm, hY9, hX9, hX9k, hXc, hXck, hlen, norm_rows, norm_c, norm_off, loadM_norm, wpx_of b7_32.eq_1, nlt_iff, n0_le, hkl, List.cons_append, List.nil_append, go_sem]); repeat' ((first
    | refine And.intro (Or.inr rfl) ?_
    | ((first | refine cB ?_ ?_ | refine gT ?_ ?_ | refine gF ?_ ?_ | refine dT ?_ ?_ | refine dF ?_ ?_) <;> intro hc)
    | refine nvmG_Flush_spec (hm1 _) hcn ?_
    | refine refG_Flush_spec (hm2 _ _) hcw ?_
    | refine nvmG_Load_spec hp0 ?_
    | refine refG_Load_spec hq0 ?_
    | refine nvmG_Words_spec hp0 hn1 ?_
    | refine refG_Words_spec (hq0.app _) ?_
    | refine law_words_spec at0 at1 (hlw _ hlen hq0.ok) ?_
    | refine nvmG_Out_spec (hp0.app _) ?_
    | refine refG_Out_spec (hq0.app _) ?_
    | refine law_ints_spec at2 at3 (hlo _ hlen) ?_
    | refine nvmG_Count_spec (hp0.app _) ?_
    | refine nvmG_Off_spec (hp0.app _) ?_
    | refine nvmG_Rows_spec (hp0.app _) ?_) <;> try simp only [*, wpx_of k7_0.eq_1, wpx_of k7_1.eq_1, wpx_of k7_2.eq_1, wpx_of k7_3.eq_1, wpx_of k7_4.eq_1, wpx_of k7_5.eq_1, wpx_of k7_6.eq_1, wpx_of k7_7.eq_1, wpx_of k7_8.eq_1, wpx_of k7_9.eq_1, wpx_of k7_10.eq_1, wpx_of k7_11.eq_1, wpx_of k7_12.eq_1, wpx_of k7_13.eq_1, wpx_of k7_14.eq_1, wpx_of k7_15.eq_1, wpx_of k7_16.eq_1, wpx_of k7_17.eq_1, wpx_of k7_18.eq_1, wpx_of k7_19.eq_1, wpx_of k7_20.eq_1, wpx_of k7_21.eq_1, wpx_of k7_22.eq_1, wpx_of k7_23.eq_1, wpx_of k7_24.eq_1, wpx_of k7_25.eq_1, wpx_of k7_26.eq_1, wpx_of k7_27.eq_1, wpx_of k7_28.eq_1, wpx_of k7_29.eq_1, wpx_of k7_30.eq_1, wpx_of k7_31.eq_1, wpx_of k7_33.eq_1, wpx_of k7_34.eq_1, wpx_of k7_35.eq_1, wpx_of k7_36.eq_1, wpx_of k7_37.eq_1, wpx_of k7_38.eq_1, wpx_of k7_39.eq_1, kA, kA0, hg, hw, hks, List.length_map, flushM_norm, hY9, hX9, hX9k, hXc, hXck, hlen, norm_rows, norm_c, norm_off, loadM_norm, wpx_of b7_32.eq_1, nlt_iff, n0_le, hkl, List.cons_append, List.nil_append, go_sem])
      have hb : (flushM w at_).1.c ≤ ((k + 1 : Nat) : Int) := by omega
      have hF : ∀ o x, H[o]? = some x → ∀ L, ((memH (memH (W ++ [.arr 5 [[.int .i64 2, .int .i64 at_, .int .u64 old, .int .u64 v, .slice oK l.length 0 l.length false]] false]) (H.length + 1) H.length n true kv (norm (flushM w at_).1)) (H.length + 3) (H.length + 2) n true kv2 (flushM w at_).1) ++ L)[o]? = some x := fun o x ho L => by
        have hlt := (List.getElem?_eq_some_iff.1 ho).1
        have hWh : ∀ o x, H[o]? = some x → W[o]? = some x := hWh
        exact Keeps.of (Upd.memH _ _ (Upd.memH _ _ (Keeps.of (hWh o x ho) _) (by omega) (by omega)) (by omega) (by omega)) L
      (refine ALoop.keep [8, 0, 1, 5, 7] ?_; simp only [List.map_cons, List.map_nil, go_sem]; refine next (_, (flushM w at_).1, kv, kv2) hks ⟨hp0.app _, hq0.app _, fun o x ho => hF o x ho _, hb⟩)
    by_cases h3 : op = 3
    · subst h3
      have hY : MemG (memH (W ++ [.arr 5 [[.int .i64 3, .int .i64 at_, .int .u64 old, .int .u64 v, .slice oK l.length 0 l.length false]] false]) (H.length + 1) H.length n true kv (norm (fenceM w).1)) (H.length + 1) H.length n true kv (norm (fenceM w).1) := by have := (hm1 [.arr 5 [[.int .i64 3, .int .i64 at_, .int .u64 old, .int .u64 v, .slice oK l.length 0 l.length false]] false]).fence hcn; rw [fenceM_norm] at this; exact this
      have hq0 : MemG (memH (memH (W ++ [.arr 5 [[.int .i64 3, .int .i64 at_, .int .u64 old, .int .u64 v, .slice oK l.length 0 l.length false]] false]) (H.length + 1) H.length n true kv (norm (fenceM w).1)) (H.length + 3) (H.length + 2) n true kv2 (fenceM w).1) (H.length + 3) (H.length + 2) n true kv2 (fenceM w).1 := (hm2 _ _).fence hcw
      have hp0 : MemG (memH (memH (W ++ [.arr 5 [[.int .i64 3, .int .i64 at_, .int .u64 old, .int .u64 v, .slice oK l.length 0 l.length false]] false]) (H.length + 1) H.length n true kv (norm (fenceM w).1)) (H.length + 3) (H.length + 2) n true kv2 (fenceM w).1) (H.length + 1) H.length n true kv (norm (fenceM w).1) := Upd.memH.mem (hm2 _ _) hY (by omega) (by omega)
      have hcc : ((fenceM w).1).c ≤ w.c + 1 := (doneM_c (m := w) (mayN w.off 0 1) fenceR).2
      have hlen : ((fenceM w).1).rows.length = n := hq0.len
      have hY9 : (memH (W ++ [.arr 5 [[.int .i64 3, .int .i64 at_, .int .u64 old, .int .u64 v, .slice oK l.length 0 l.length false]] false]) (H.length + 1) H.length n true kv (norm (fenceM w).1))[W.length]? = some (.arr 5 [[.int .i64 3, .int .i64 at_, .int .u64 old, .int .u64 v, .slice oK l.length 0 l.length false]] false) := Upd.memH _ _ at0 (by have := hp.lt; omega) (by have := hp.ltR; omega)
      have hX9 : (memH (memH (W ++ [.arr 5 [[.int .i64 3, .int .i64 at_, .int .u64 old, .int .u64 v, .slice oK l.length 0 l.length false]] false]) (H.length + 1) H.length n true kv (norm (fenceM w).1)) (H.length + 3) (H.length + 2) n true kv2 (fenceM w).1)[W.length]? = some (.arr 5 [[.int .i64 3, .int .i64 at_, .int .u64 old, .int .u64 v, .slice oK l.length 0 l.length false]] false) := Upd.memH _ _ hY9 (by have := hq.lt; omega) (by have := hq.ltR; omega)
      have hX9k := Keeps.of hX9
      have hXc := hq0.cell
      have hXck := Keeps.of hXc
      (try simp only [wpx_of k7_0.eq_1, wpx_of k7_1.eq_1, wpx_of k7_2.eq_1, wpx_of k7_3.eq_1, wpx_of k7_4.eq_1, wpx_of k7_5.eq_1, wpx_of k7_6.eq_1, wpx_of k7_7.eq_1, wpx_of k7_8.eq_1, wpx_of k7_9.eq_1, wpx_of k7_10.eq_1, wpx_of k7_11.eq_1, wpx_of k7_12.eq_1, wpx_of k7_13.eq_1, wpx_of k7_14.eq_1, wpx_of k7_15.eq_1, wpx_of k7_16.eq_1, wpx_of k7_17.eq_1, wpx_of k7_18.eq_1, wpx_of k7_19.eq_1, wpx_of k7_20.eq_1, wpx_of k7_21.eq_1, wpx_of k7_22.eq_1, wpx_of k7_23.eq_1, wpx_of k7_24.eq_1, wpx_of k7_25.eq_1, wpx_of k7_26.eq_1, wpx_of k7_27.eq_1, wpx_of k7_28.eq_1, wpx_of k7_29.eq_1, wpx_of k7_30.eq_1, wpx_of k7_31.eq_1, wpx_of k7_33.eq_1, wpx_of k7_34.eq_1, wpx_of k7_35.eq_1, wpx_of k7_36.eq_1, wpx_of k7_37.eq_1, wpx_of k7_38.eq_1, wpx_of k7_39.eq_1, kA, kA0, hg, hw, hks, List.length_map, fenceM_norm, hY9, hX9, hX9k, hXc, hXck, hlen, norm_rows, norm_c, norm_off, loadM_norm, wpx_of b7_32.eq_1, nlt_iff, n0_le, hkl, List.cons_append, List.nil_append, go_sem]); repeat' ((first
    | refine And.intro (Or.inr rfl) ?_
    | ((first | refine cB ?_ ?_ | refine gT ?_ ?_ | refine gF ?_ ?_ | refine dT ?_ ?_ | refine dF ?_ ?_) <;> intro hc)
    | refine nvmG_Fence_spec (hm1 _) hcn ?_
    | refine refG_Fence_spec (hm2 _ _) hcw ?_
    | refine nvmG_Load_spec hp0 ?_
    | refine refG_Load_spec hq0 ?_
    | refine nvmG_Words_spec hp0 hn1 ?_
    | refine refG_Words_spec (hq0.app _) ?_
    | refine law_words_spec at0 at1 (hlw _ hlen hq0.ok) ?_
    | refine nvmG_Out_spec (hp0.app _) ?_
    | refine refG_Out_spec (hq0.app _) ?_
    | refine law_ints_spec at2 at3 (hlo _ hlen) ?_
    | refine nvmG_Count_spec (hp0.app _) ?_
    | refine nvmG_Off_spec (hp0.app _) ?_
    | refine nvmG_Rows_spec (hp0.app _) ?_) <;> try simp only [*, wpx_of k7_0.eq_1, wpx_of k7_1.eq_1, wpx_of k7_2.eq_1, wpx_of k7_3.eq_1, wpx_of k7_4.eq_1, wpx_of k7_5.eq_1, wpx_of k7_6.eq_1, wpx_of k7_7.eq_1, wpx_of k7_8.eq_1, wpx_of k7_9.eq_1, wpx_of k7_10.eq_1, wpx_of k7_11.eq_1, wpx_of k7_12.eq_1, wpx_of k7_13.eq_1, wpx_of k7_14.eq_1, wpx_of k7_15.eq_1, wpx_of k7_16.eq_1, wpx_of k7_17.eq_1, wpx_of k7_18.eq_1, wpx_of k7_19.eq_1, wpx_of k7_20.eq_1, wpx_of k7_21.eq_1, wpx_of k7_22.eq_1, wpx_of k7_23.eq_1, wpx_of k7_24.eq_1, wpx_of k7_25.eq_1, wpx_of k7_26.eq_1, wpx_of k7_27.eq_1, wpx_of k7_28.eq_1, wpx_of k7_29.eq_1, wpx_of k7_30.eq_1, wpx_of k7_31.eq_1, wpx_of k7_33.eq_1, wpx_of k7_34.eq_1, wpx_of k7_35.eq_1, wpx_of k7_36.eq_1, wpx_of k7_37.eq_1, wpx_of k7_38.eq_1, wpx_of k7_39.eq_1, kA, kA0, hg, hw, hks, List.length_map, fenceM_norm, hY9, hX9, hX9k, hXc, hXck, hlen, norm_rows, norm_c, norm_off, loadM_norm, wpx_of b7_32.eq_1, nlt_iff, n0_le, hkl, List.cons_append, List.nil_append, go_sem])
      have hb : (fenceM w).1.c ≤ ((k + 1 : Nat) : Int) := by omega
      have hF : ∀ o x, H[o]? = some x → ∀ L, ((memH (memH (W ++ [.arr 5 [[.int .i64 3, .int .i64 at_, .int .u64 old, .int .u64 v, .slice oK l.length 0 l.length false]] false]) (H.length + 1) H.length n true kv (norm (fenceM w).1)) (H.length + 3) (H.length + 2) n true kv2 (fenceM w).1) ++ L)[o]? = some x := fun o x ho L => by
        have hlt := (List.getElem?_eq_some_iff.1 ho).1
        have hWh : ∀ o x, H[o]? = some x → W[o]? = some x := hWh
        exact Keeps.of (Upd.memH _ _ (Upd.memH _ _ (Keeps.of (hWh o x ho) _) (by omega) (by omega)) (by omega) (by omega)) L
      (refine ALoop.keep [8, 0, 1, 5, 7] ?_; simp only [List.map_cons, List.map_nil, go_sem]; refine next (_, (fenceM w).1, kv, kv2) hks ⟨hp0.app _, hq0.app _, fun o x ho => hF o x ho _, hb⟩)
    by_cases h4 : op = 4
    · subst h4
      have hY : MemG (memH (W ++ [.arr 5 [[.int .i64 4, .int .i64 at_, .int .u64 old, .int .u64 v, .slice oK l.length 0 l.length false]] false]) (H.length + 1) H.length n true kv (norm (evictM w at_).1)) (H.length + 1) H.length n true kv (norm (evictM w at_).1) := by have := (hm1 [.arr 5 [[.int .i64 4, .int .i64 at_, .int .u64 old, .int .u64 v, .slice oK l.length 0 l.length false]] false]).evict at_; rw [evictM_norm] at this; exact this
      have hq0 : MemG (memH (memH (W ++ [.arr 5 [[.int .i64 4, .int .i64 at_, .int .u64 old, .int .u64 v, .slice oK l.length 0 l.length false]] false]) (H.length + 1) H.length n true kv (norm (evictM w at_).1)) (H.length + 3) (H.length + 2) n true kv2 (evictM w at_).1) (H.length + 3) (H.length + 2) n true kv2 (evictM w at_).1 := (hm2 _ _).evict at_
      have hp0 : MemG (memH (memH (W ++ [.arr 5 [[.int .i64 4, .int .i64 at_, .int .u64 old, .int .u64 v, .slice oK l.length 0 l.length false]] false]) (H.length + 1) H.length n true kv (norm (evictM w at_).1)) (H.length + 3) (H.length + 2) n true kv2 (evictM w at_).1) (H.length + 1) H.length n true kv (norm (evictM w at_).1) := Upd.memH.mem (hm2 _ _) hY (by omega) (by omega)
      have hcc : ((evictM w at_).1).c ≤ w.c + 1 := evictM_c w at_
      have hlen : ((evictM w at_).1).rows.length = n := hq0.len
      have hY9 : (memH (W ++ [.arr 5 [[.int .i64 4, .int .i64 at_, .int .u64 old, .int .u64 v, .slice oK l.length 0 l.length false]] false]) (H.length + 1) H.length n true kv (norm (evictM w at_).1))[W.length]? = some (.arr 5 [[.int .i64 4, .int .i64 at_, .int .u64 old, .int .u64 v, .slice oK l.length 0 l.length false]] false) := Upd.memH _ _ at0 (by have := hp.lt; omega) (by have := hp.ltR; omega)
      have hX9 : (memH (memH (W ++ [.arr 5 [[.int .i64 4, .int .i64 at_, .int .u64 old, .int .u64 v, .slice oK l.length 0 l.length false]] false]) (H.length + 1) H.length n true kv (norm (evictM w at_).1)) (H.length + 3) (H.length + 2) n true kv2 (evictM w at_).1)[W.length]? = some (.arr 5 [[.int .i64 4, .int .i64 at_, .int .u64 old, .int .u64 v, .slice oK l.length 0 l.length false]] false) := Upd.memH _ _ hY9 (by have := hq.lt; omega) (by have := hq.ltR; omega)
      have hX9k := Keeps.of hX9
      have hXc := hq0.cell
      have hXck := Keeps.of hXc
      (try simp only [wpx_of k7_0.eq_1, wpx_of k7_1.eq_1, wpx_of k7_2.eq_1, wpx_of k7_3.eq_1, wpx_of k7_4.eq_1, wpx_of k7_5.eq_1, wpx_of k7_6.eq_1, wpx_of k7_7.eq_1, wpx_of k7_8.eq_1, wpx_of k7_9.eq_1, wpx_of k7_10.eq_1, wpx_of k7_11.eq_1, wpx_of k7_12.eq_1, wpx_of k7_13.eq_1, wpx_of k7_14.eq_1, wpx_of k7_15.eq_1, wpx_of k7_16.eq_1, wpx_of k7_17.eq_1, wpx_of k7_18.eq_1, wpx_of k7_19.eq_1, wpx_of k7_20.eq_1, wpx_of k7_21.eq_1, wpx_of k7_22.eq_1, wpx_of k7_23.eq_1, wpx_of k7_24.eq_1, wpx_of k7_25.eq_1, wpx_of k7_26.eq_1, wpx_of k7_27.eq_1, wpx_of k7_28.eq_1, wpx_of k7_29.eq_1, wpx_of k7_30.eq_1, wpx_of k7_31.eq_1, wpx_of k7_33.eq_1, wpx_of k7_34.eq_1, wpx_of k7_35.eq_1, wpx_of k7_36.eq_1, wpx_of k7_37.eq_1, wpx_of k7_38.eq_1, wpx_of k7_39.eq_1, kA, kA0, hg, hw, hks, List.length_map, evictM_norm, hY9, hX9, hX9k, hXc, hXck, hlen, norm_rows, norm_c, norm_off, loadM_norm, wpx_of b7_32.eq_1, nlt_iff, n0_le, hkl, List.cons_append, List.nil_append, go_sem]); repeat' ((first
    | refine And.intro (Or.inr rfl) ?_
    | ((first | refine cB ?_ ?_ | refine gT ?_ ?_ | refine gF ?_ ?_ | refine dT ?_ ?_ | refine dF ?_ ?_) <;> intro hc)
    | refine nvmG_Evict_spec (hm1 _) ?_
    | refine refG_Evict_spec (hm2 _ _) ?_
    | refine nvmG_Load_spec hp0 ?_
    | refine refG_Load_spec hq0 ?_
    | refine nvmG_Words_spec hp0 hn1 ?_
    | refine refG_Words_spec (hq0.app _) ?_
    | refine law_words_spec at0 at1 (hlw _ hlen hq0.ok) ?_
    | refine nvmG_Out_spec (hp0.app _) ?_
    | refine refG_Out_spec (hq0.app _) ?_
    | refine law_ints_spec at2 at3 (hlo _ hlen) ?_
    | refine nvmG_Count_spec (hp0.app _) ?_
    | refine nvmG_Off_spec (hp0.app _) ?_
    | refine nvmG_Rows_spec (hp0.app _) ?_) <;> try simp only [*, wpx_of k7_0.eq_1, wpx_of k7_1.eq_1, wpx_of k7_2.eq_1, wpx_of k7_3.eq_1, wpx_of k7_4.eq_1, wpx_of k7_5.eq_1, wpx_of k7_6.eq_1, wpx_of k7_7.eq_1, wpx_of k7_8.eq_1, wpx_of k7_9.eq_1, wpx_of k7_10.eq_1, wpx_of k7_11.eq_1, wpx_of k7_12.eq_1, wpx_of k7_13.eq_1, wpx_of k7_14.eq_1, wpx_of k7_15.eq_1, wpx_of k7_16.eq_1, wpx_of k7_17.eq_1, wpx_of k7_18.eq_1, wpx_of k7_19.eq_1, wpx_of k7_20.eq_1, wpx_of k7_21.eq_1, wpx_of k7_22.eq_1, wpx_of k7_23.eq_1, wpx_of k7_24.eq_1, wpx_of k7_25.eq_1, wpx_of k7_26.eq_1, wpx_of k7_27.eq_1, wpx_of k7_28.eq_1, wpx_of k7_29.eq_1, wpx_of k7_30.eq_1, wpx_of k7_31.eq_1, wpx_of k7_33.eq_1, wpx_of k7_34.eq_1, wpx_of k7_35.eq_1, wpx_of k7_36.eq_1, wpx_of k7_37.eq_1, wpx_of k7_38.eq_1, wpx_of k7_39.eq_1, kA, kA0, hg, hw, hks, List.length_map, evictM_norm, hY9, hX9, hX9k, hXc, hXck, hlen, norm_rows, norm_c, norm_off, loadM_norm, wpx_of b7_32.eq_1, nlt_iff, n0_le, hkl, List.cons_append, List.nil_append, go_sem])
      have hb : (evictM w at_).1.c ≤ ((k + 1 : Nat) : Int) := by omega
      have hF : ∀ o x, H[o]? = some x → ∀ L, ((memH (memH (W ++ [.arr 5 [[.int .i64 4, .int .i64 at_, .int .u64 old, .int .u64 v, .slice oK l.length 0 l.length false]] false]) (H.length + 1) H.length n true kv (norm (evictM w at_).1)) (H.length + 3) (H.length + 2) n true kv2 (evictM w at_).1) ++ L)[o]? = some x := fun o x ho L => by
        have hlt := (List.getElem?_eq_some_iff.1 ho).1
        have hWh : ∀ o x, H[o]? = some x → W[o]? = some x := hWh
        exact Keeps.of (Upd.memH _ _ (Upd.memH _ _ (Keeps.of (hWh o x ho) _) (by omega) (by omega)) (by omega) (by omega)) L
      (refine ALoop.keep [8, 0, 1, 5, 7] ?_; simp only [List.map_cons, List.map_nil, go_sem]; refine next (_, (evictM w at_).1, kv, kv2) hks ⟨hp0.app _, hq0.app _, fun o x ho => hF o x ho _, hb⟩)
    by_cases h5 : op = 5
    · subst h5
      have hY : MemG (memH (W ++ [.arr 5 [[.int .i64 5, .int .i64 at_, .int .u64 old, .int .u64 v, .slice oK l.length 0 l.length false]] false]) (H.length + 1) H.length n true kv (norm (crashM w l))) (H.length + 1) H.length n true kv (norm (crashM w l)) := by have := (hm1 [.arr 5 [[.int .i64 5, .int .i64 at_, .int .u64 old, .int .u64 v, .slice oK l.length 0 l.length false]] false]).crash l; rw [crashM_norm] at this; exact this
      have hq0 : MemG (memH (memH (W ++ [.arr 5 [[.int .i64 5, .int .i64 at_, .int .u64 old, .int .u64 v, .slice oK l.length 0 l.length false]] false]) (H.length + 1) H.length n true kv (norm (crashM w l))) (H.length + 3) (H.length + 2) n true kv2 (crashM w l)) (H.length + 3) (H.length + 2) n true kv2 (crashM w l) := (hm2 _ _).crash l
      have hp0 : MemG (memH (memH (W ++ [.arr 5 [[.int .i64 5, .int .i64 at_, .int .u64 old, .int .u64 v, .slice oK l.length 0 l.length false]] false]) (H.length + 1) H.length n true kv (norm (crashM w l))) (H.length + 3) (H.length + 2) n true kv2 (crashM w l)) (H.length + 1) H.length n true kv (norm (crashM w l)) := Upd.memH.mem (hm2 _ _) hY (by omega) (by omega)
      have hcc : ((crashM w l)).c ≤ w.c + 1 := (by rw [crashM_c]; omega)
      have hlen : ((crashM w l)).rows.length = n := hq0.len
      have hY9 : (memH (W ++ [.arr 5 [[.int .i64 5, .int .i64 at_, .int .u64 old, .int .u64 v, .slice oK l.length 0 l.length false]] false]) (H.length + 1) H.length n true kv (norm (crashM w l)))[W.length]? = some (.arr 5 [[.int .i64 5, .int .i64 at_, .int .u64 old, .int .u64 v, .slice oK l.length 0 l.length false]] false) := Upd.memH _ _ at0 (by have := hp.lt; omega) (by have := hp.ltR; omega)
      have hX9 : (memH (memH (W ++ [.arr 5 [[.int .i64 5, .int .i64 at_, .int .u64 old, .int .u64 v, .slice oK l.length 0 l.length false]] false]) (H.length + 1) H.length n true kv (norm (crashM w l))) (H.length + 3) (H.length + 2) n true kv2 (crashM w l))[W.length]? = some (.arr 5 [[.int .i64 5, .int .i64 at_, .int .u64 old, .int .u64 v, .slice oK l.length 0 l.length false]] false) := Upd.memH _ _ hY9 (by have := hq.lt; omega) (by have := hq.ltR; omega)
      have hX9k := Keeps.of hX9
      have hXc := hq0.cell
      have hXck := Keeps.of hXc
      (try simp only [wpx_of k7_0.eq_1, wpx_of k7_1.eq_1, wpx_of k7_2.eq_1, wpx_of k7_3.eq_1, wpx_of k7_4.eq_1, wpx_of k7_5.eq_1, wpx_of k7_6.eq_1, wpx_of k7_7.eq_1, wpx_of k7_8.eq_1, wpx_of k7_9.eq_1, wpx_of k7_10.eq_1, wpx_of k7_11.eq_1, wpx_of k7_12.eq_1, wpx_of k7_13.eq_1, wpx_of k7_14.eq_1, wpx_of k7_15.eq_1, wpx_of k7_16.eq_1, wpx_of k7_17.eq_1, wpx_of k7_18.eq_1, wpx_of k7_19.eq_1, wpx_of k7_20.eq_1, wpx_of k7_21.eq_1, wpx_of k7_22.eq_1, wpx_of k7_23.eq_1, wpx_of k7_24.eq_1, wpx_of k7_25.eq_1, wpx_of k7_26.eq_1, wpx_of k7_27.eq_1, wpx_of k7_28.eq_1, wpx_of k7_29.eq_1, wpx_of k7_30.eq_1, wpx_of k7_31.eq_1, wpx_of k7_33.eq_1, wpx_of k7_34.eq_1, wpx_of k7_35.eq_1, wpx_of k7_36.eq_1, wpx_of k7_37.eq_1, wpx_of k7_38.eq_1, wpx_of k7_39.eq_1, kA, kA0, hg, hw, hks, List.length_map, crashM_norm, hY9, hX9, hX9k, hXc, hXck, hlen, norm_rows, norm_c, norm_off, loadM_norm, wpx_of b7_32.eq_1, nlt_iff, n0_le, hkl, List.cons_append, List.nil_append, go_sem]); repeat' ((first
    | refine And.intro (Or.inr rfl) ?_
    | ((first | refine cB ?_ ?_ | refine gT ?_ ?_ | refine gF ?_ ?_ | refine dT ?_ ?_ | refine dF ?_ ?_) <;> intro hc)
    | refine nvmG_Crash_spec (hm1 _) (.inr ⟨_, _, _, rfl, hk1 _⟩) (by omega) ?_
    | refine refG_Crash_spec (hm2 _ _) (.inr ⟨_, _, _, rfl, hk2 _ _⟩) (by omega) ?_
    | refine nvmG_Load_spec hp0 ?_
    | refine refG_Load_spec hq0 ?_
    | refine nvmG_Words_spec hp0 hn1 ?_
    | refine refG_Words_spec (hq0.app _) ?_
    | refine law_words_spec at0 at1 (hlw _ hlen hq0.ok) ?_
    | refine nvmG_Out_spec (hp0.app _) ?_
    | refine refG_Out_spec (hq0.app _) ?_
    | refine law_ints_spec at2 at3 (hlo _ hlen) ?_
    | refine nvmG_Count_spec (hp0.app _) ?_
    | refine nvmG_Off_spec (hp0.app _) ?_
    | refine nvmG_Rows_spec (hp0.app _) ?_) <;> try simp only [*, wpx_of k7_0.eq_1, wpx_of k7_1.eq_1, wpx_of k7_2.eq_1, wpx_of k7_3.eq_1, wpx_of k7_4.eq_1, wpx_of k7_5.eq_1, wpx_of k7_6.eq_1, wpx_of k7_7.eq_1, wpx_of k7_8.eq_1, wpx_of k7_9.eq_1, wpx_of k7_10.eq_1, wpx_of k7_11.eq_1, wpx_of k7_12.eq_1, wpx_of k7_13.eq_1, wpx_of k7_14.eq_1, wpx_of k7_15.eq_1, wpx_of k7_16.eq_1, wpx_of k7_17.eq_1, wpx_of k7_18.eq_1, wpx_of k7_19.eq_1, wpx_of k7_20.eq_1, wpx_of k7_21.eq_1, wpx_of k7_22.eq_1, wpx_of k7_23.eq_1, wpx_of k7_24.eq_1, wpx_of k7_25.eq_1, wpx_of k7_26.eq_1, wpx_of k7_27.eq_1, wpx_of k7_28.eq_1, wpx_of k7_29.eq_1, wpx_of k7_30.eq_1, wpx_of k7_31.eq_1, wpx_of k7_33.eq_1, wpx_of k7_34.eq_1, wpx_of k7_35.eq_1, wpx_of k7_36.eq_1, wpx_of k7_37.eq_1, wpx_of k7_38.eq_1, wpx_of k7_39.eq_1, kA, kA0, hg, hw, hks, List.length_map, crashM_norm, hY9, hX9, hX9k, hXc, hXck, hlen, norm_rows, norm_c, norm_off, loadM_norm, wpx_of b7_32.eq_1, nlt_iff, n0_le, hkl, List.cons_append, List.nil_append, go_sem])
      have hb : (crashM w l).c ≤ ((k + 1 : Nat) : Int) := by omega
      have hF : ∀ o x, H[o]? = some x → ∀ L, ((memH (memH (W ++ [.arr 5 [[.int .i64 5, .int .i64 at_, .int .u64 old, .int .u64 v, .slice oK l.length 0 l.length false]] false]) (H.length + 1) H.length n true kv (norm (crashM w l))) (H.length + 3) (H.length + 2) n true kv2 (crashM w l)) ++ L)[o]? = some x := fun o x ho L => by
        have hlt := (List.getElem?_eq_some_iff.1 ho).1
        have hWh : ∀ o x, H[o]? = some x → W[o]? = some x := hWh
        exact Keeps.of (Upd.memH _ _ (Upd.memH _ _ (Keeps.of (hWh o x ho) _) (by omega) (by omega)) (by omega) (by omega)) L
      (refine ALoop.keep [8, 0, 1, 5, 7] ?_; simp only [List.map_cons, List.map_nil, go_sem]; refine next (_, (crashM w l), kv, kv2) hks ⟨hp0.app _, hq0.app _, fun o x ho => hF o x ho _, hb⟩)
    by_cases h6 : op = 6
    · subst h6
      have hY : MemG (memH (W ++ [.arr 5 [[.int .i64 6, .int .i64 at_, .int .u64 old, .int .u64 v, .slice oK l.length 0 l.length false]] false]) (H.length + 1) H.length n true kv (norm { w with off := false })) (H.length + 1) H.length n true kv (norm { w with off := false }) := by have := (hm1 [.arr 5 [[.int .i64 6, .int .i64 at_, .int .u64 old, .int .u64 v, .slice oK l.length 0 l.length false]] false]).on; rw [on_norm] at this; exact this
      have hq0 : MemG (memH (memH (W ++ [.arr 5 [[.int .i64 6, .int .i64 at_, .int .u64 old, .int .u64 v, .slice oK l.length 0 l.length false]] false]) (H.length + 1) H.length n true kv (norm { w with off := false })) (H.length + 3) (H.length + 2) n true kv2 { w with off := false }) (H.length + 3) (H.length + 2) n true kv2 { w with off := false } := (hm2 _ _).on
      have hp0 : MemG (memH (memH (W ++ [.arr 5 [[.int .i64 6, .int .i64 at_, .int .u64 old, .int .u64 v, .slice oK l.length 0 l.length false]] false]) (H.length + 1) H.length n true kv (norm { w with off := false })) (H.length + 3) (H.length + 2) n true kv2 { w with off := false }) (H.length + 1) H.length n true kv (norm { w with off := false }) := Upd.memH.mem (hm2 _ _) hY (by omega) (by omega)
      have hcc : ({ w with off := false }).c ≤ w.c + 1 := (by simp only; omega)
      have hlen : ({ w with off := false }).rows.length = n := hq0.len
      have hY9 : (memH (W ++ [.arr 5 [[.int .i64 6, .int .i64 at_, .int .u64 old, .int .u64 v, .slice oK l.length 0 l.length false]] false]) (H.length + 1) H.length n true kv (norm { w with off := false }))[W.length]? = some (.arr 5 [[.int .i64 6, .int .i64 at_, .int .u64 old, .int .u64 v, .slice oK l.length 0 l.length false]] false) := Upd.memH _ _ at0 (by have := hp.lt; omega) (by have := hp.ltR; omega)
      have hX9 : (memH (memH (W ++ [.arr 5 [[.int .i64 6, .int .i64 at_, .int .u64 old, .int .u64 v, .slice oK l.length 0 l.length false]] false]) (H.length + 1) H.length n true kv (norm { w with off := false })) (H.length + 3) (H.length + 2) n true kv2 { w with off := false })[W.length]? = some (.arr 5 [[.int .i64 6, .int .i64 at_, .int .u64 old, .int .u64 v, .slice oK l.length 0 l.length false]] false) := Upd.memH _ _ hY9 (by have := hq.lt; omega) (by have := hq.ltR; omega)
      have hX9k := Keeps.of hX9
      have hXc := hq0.cell
      have hXck := Keeps.of hXc
      have hYc := (hm2 (norm { w with off := false }) [.arr 5 [[.int .i64 6, .int .i64 at_, .int .u64 old, .int .u64 v, .slice oK l.length 0 l.length false]] false]).cell
      have hE := memH_rows (m' := { w with off := false }) (hm2 (norm { w with off := false }) [.arr 5 [[.int .i64 6, .int .i64 at_, .int .u64 old, .int .u64 v, .slice oK l.length 0 l.length false]] false]) rfl
      unfold memG at hE
      have hEs := hE.symm
      clear hE
      (try simp only [wpx_of k7_0.eq_1, wpx_of k7_1.eq_1, wpx_of k7_2.eq_1, wpx_of k7_3.eq_1, wpx_of k7_4.eq_1, wpx_of k7_5.eq_1, wpx_of k7_6.eq_1, wpx_of k7_7.eq_1, wpx_of k7_8.eq_1, wpx_of k7_9.eq_1, wpx_of k7_10.eq_1, wpx_of k7_11.eq_1, wpx_of k7_12.eq_1, wpx_of k7_13.eq_1, wpx_of k7_14.eq_1, wpx_of k7_15.eq_1, wpx_of k7_16.eq_1, wpx_of k7_17.eq_1, wpx_of k7_18.eq_1, wpx_of k7_19.eq_1, wpx_of k7_20.eq_1, wpx_of k7_21.eq_1, wpx_of k7_22.eq_1, wpx_of k7_23.eq_1, wpx_of k7_24.eq_1, wpx_of k7_25.eq_1, wpx_of k7_26.eq_1, wpx_of k7_27.eq_1, wpx_of k7_28.eq_1, wpx_of k7_29.eq_1, wpx_of k7_30.eq_1, wpx_of k7_31.eq_1, wpx_of k7_33.eq_1, wpx_of k7_34.eq_1, wpx_of k7_35.eq_1, wpx_of k7_36.eq_1, wpx_of k7_37.eq_1, wpx_of k7_38.eq_1, wpx_of k7_39.eq_1, kA, kA0, hg, hw, hks, List.length_map, on_norm, hY9, hX9, hX9k, hXc, hXck, hlen, norm_rows, norm_c, norm_off, loadM_norm, wpx_of b7_32.eq_1, nlt_iff, n0_le, hkl, List.cons_append, List.nil_append, hYc, hEs, go_sem]); repeat' ((first
    | refine And.intro (Or.inr rfl) ?_
    | ((first | refine cB ?_ ?_ | refine gT ?_ ?_ | refine gF ?_ ?_ | refine dT ?_ ?_ | refine dF ?_ ?_) <;> intro hc)
    | (refine nvmG_On_spec (hm1 _) ?_; rw [on_norm])
    | refine nvmG_Load_spec hp0 ?_
    | refine refG_Load_spec hq0 ?_
    | refine nvmG_Words_spec hp0 hn1 ?_
    | refine refG_Words_spec (hq0.app _) ?_
    | refine law_words_spec at0 at1 (hlw _ hlen hq0.ok) ?_
    | refine nvmG_Out_spec (hp0.app _) ?_
    | refine refG_Out_spec (hq0.app _) ?_
    | refine law_ints_spec at2 at3 (hlo _ hlen) ?_
    | refine nvmG_Count_spec (hp0.app _) ?_
    | refine nvmG_Off_spec (hp0.app _) ?_
    | refine nvmG_Rows_spec (hp0.app _) ?_) <;> try simp only [*, wpx_of k7_0.eq_1, wpx_of k7_1.eq_1, wpx_of k7_2.eq_1, wpx_of k7_3.eq_1, wpx_of k7_4.eq_1, wpx_of k7_5.eq_1, wpx_of k7_6.eq_1, wpx_of k7_7.eq_1, wpx_of k7_8.eq_1, wpx_of k7_9.eq_1, wpx_of k7_10.eq_1, wpx_of k7_11.eq_1, wpx_of k7_12.eq_1, wpx_of k7_13.eq_1, wpx_of k7_14.eq_1, wpx_of k7_15.eq_1, wpx_of k7_16.eq_1, wpx_of k7_17.eq_1, wpx_of k7_18.eq_1, wpx_of k7_19.eq_1, wpx_of k7_20.eq_1, wpx_of k7_21.eq_1, wpx_of k7_22.eq_1, wpx_of k7_23.eq_1, wpx_of k7_24.eq_1, wpx_of k7_25.eq_1, wpx_of k7_26.eq_1, wpx_of k7_27.eq_1, wpx_of k7_28.eq_1, wpx_of k7_29.eq_1, wpx_of k7_30.eq_1, wpx_of k7_31.eq_1, wpx_of k7_33.eq_1, wpx_of k7_34.eq_1, wpx_of k7_35.eq_1, wpx_of k7_36.eq_1, wpx_of k7_37.eq_1, wpx_of k7_38.eq_1, wpx_of k7_39.eq_1, kA, kA0, hg, hw, hks, List.length_map, on_norm, hY9, hX9, hX9k, hXc, hXck, hlen, norm_rows, norm_c, norm_off, loadM_norm, wpx_of b7_32.eq_1, nlt_iff, n0_le, hkl, List.cons_append, List.nil_append, hYc, hEs, go_sem])
      have hb : { w with off := false }.c ≤ ((k + 1 : Nat) : Int) := by omega
      have hF : ∀ o x, H[o]? = some x → ∀ L, ((memH (memH (W ++ [.arr 5 [[.int .i64 6, .int .i64 at_, .int .u64 old, .int .u64 v, .slice oK l.length 0 l.length false]] false]) (H.length + 1) H.length n true kv (norm { w with off := false })) (H.length + 3) (H.length + 2) n true kv2 { w with off := false }) ++ L)[o]? = some x := fun o x ho L => by
        have hlt := (List.getElem?_eq_some_iff.1 ho).1
        have hWh : ∀ o x, H[o]? = some x → W[o]? = some x := hWh
        exact Keeps.of (Upd.memH _ _ (Upd.memH _ _ (Keeps.of (hWh o x ho) _) (by omega) (by omega)) (by omega) (by omega)) L
      (refine ALoop.keep [8, 0, 1, 5, 7] ?_; simp only [List.map_cons, List.map_nil, go_sem]; refine next (_, { w with off := false }, kv, kv2) hks ⟨hp0.app _, hq0.app _, fun o x ho => hF o x ho _, hb⟩)
    · have n0 : (op = 0) = False := eq_false h0
      have n1 : (op = 1) = False := eq_false h1
      have n2 : (op = 2) = False := eq_false h2
      have n3 : (op = 3) = False := eq_false h3
      have n4 : (op = 4) = False := eq_false h4
      have n5 : (op = 5) = False := eq_false h5
      have n6 : (op = 6) = False := eq_false h6
      clear h0 h1 h2 h3 h4 h5 h6
      have hm2' : ∀ kv' L, MemG (memH (W ++ [.arr 5 [[.int .i64 op, .int .i64 at_, .int .u64 old, .int .u64 v, .slice oK l.length 0 l.length false]] false]) (H.length + 1) H.length n true kv' (norm (fuseW w at_ l)) ++ L) (H.length + 3) (H.length + 2) n true kv2 w := fun kv' L => (Upd.app Upd.memH L).mem (hm1 _) (hq.app _) (by omega) (by omega)
      have hp0' : Hid (∀ kv' L kv2' L2, MemG (memH (W ++ [.arr 5 [[.int .i64 op, .int .i64 at_, .int .u64 old, .int .u64 v, .slice oK l.length 0 l.length false]] false]) (H.length + 1) H.length n true kv' (norm (fuseW w at_ l)) ++ L) (H.length + 1) H.length n true kv' (norm (fuseW w at_ l)) → MemG (memH (memH (W ++ [.arr 5 [[.int .i64 op, .int .i64 at_, .int .u64 old, .int .u64 v, .slice oK l.length 0 l.length false]] false]) (H.length + 1) H.length n true kv' (norm (fuseW w at_ l)) ++ L) (H.length + 3) (H.length + 2) n true kv2' (fuseW w at_ l) ++ L2) (H.length + 1) H.length n true kv' (norm (fuseW w at_ l))) := fun kv' L kv2' L2 h => (Upd.app Upd.memH L2).mem (hm2' kv' L) h (by omega) (by omega)
      have hcc : ((fuseW w at_ l)).c ≤ w.c + 1 := by unfold fuseW; cases w.off <;> simp <;> omega
      have hk3 : ∀ kv' L, (memH (W ++ [.arr 5 [[.int .i64 op, .int .i64 at_, .int .u64 old, .int .u64 v, .slice oK l.length 0 l.length false]] false]) (H.length + 1) H.length n true kv' (norm (fuseW w at_ l)) ++ L)[oK]? = some (.arr 1 (ints l) true) := fun kv' L => Upd.app Upd.memH L _ _ (kL _) (by omega) (by omega)
      have hY9 : ∀ kv' L, (memH (W ++ [.arr 5 [[.int .i64 op, .int .i64 at_, .int .u64 old, .int .u64 v, .slice oK l.length 0 l.length false]] false]) (H.length + 1) H.length n true kv' (norm (fuseW w at_ l)) ++ L)[W.length]? = some (.arr 5 [[.int .i64 op, .int .i64 at_, .int .u64 old, .int .u64 v, .slice oK l.length 0 l.length false]] false) := fun kv' L => Upd.app Upd.memH L _ _ at0 (by have := hp.lt; omega) (by have := hp.ltR; omega)
      have hX9' : Hid (∀ kv' L kv2' L2, (memH (memH (W ++ [.arr 5 [[.int .i64 op, .int .i64 at_, .int .u64 old, .int .u64 v, .slice oK l.length 0 l.length false]] false]) (H.length + 1) H.length n true kv' (norm (fuseW w at_ l)) ++ L) (H.length + 3) (H.length + 2) n true kv2' (fuseW w at_ l) ++ L2)[W.length]? = some (.arr 5 [[.int .i64 op, .int .i64 at_, .int .u64 old, .int .u64 v, .slice oK l.length 0 l.length false]] false)) := fun kv' L kv2' L2 => Upd.app Upd.memH L2 _ _ (hY9 kv' L) (by have := hq.lt; omega) (by have := hq.ltR; omega)
      have hlen : ((fuseW w at_ l)).rows.length = n := by unfold fuseW; cases w.off <;> exact hq.len
      have hokr : ∀ r ∈ ((fuseW w at_ l)).rows, r.ok := by unfold fuseW; cases w.off <;> exact hq.ok
      have hF' : Hid (∀ kv' L kv2' L2, ∀ o x, H[o]? = some x → ∀ L3, (memH (memH (W ++ [.arr 5 [[.int .i64 op, .int .i64 at_, .int .u64 old, .int .u64 v, .slice oK l.length 0 l.length false]] false]) (H.length + 1) H.length n true kv' (norm (fuseW w at_ l)) ++ L) (H.length + 3) (H.length + 2) n true kv2' (fuseW w at_ l) ++ L2 ++ L3)[o]? = some x) := fun kv' L kv2' L2 o x ho L3 => by
        have hlt := (List.getElem?_eq_some_iff.1 ho).1
        have hWh : ∀ o x, H[o]? = some x → W[o]? = some x := hWh
        exact Keeps.of (Upd.app Upd.memH L2 _ _ (Upd.app Upd.memH L _ _ (Keeps.of (hWh o x ho) _) (by omega) (by omega)) (by omega) (by omega)) L3
      have hb : ((fuseW w at_ l)).c ≤ ((k + 1 : Nat) : Int) := by omega
      (try simp only [wpx_of k7_0.eq_1, wpx_of k7_1.eq_1, wpx_of k7_2.eq_1, wpx_of k7_3.eq_1, wpx_of k7_4.eq_1, wpx_of k7_5.eq_1, wpx_of k7_6.eq_1, wpx_of k7_7.eq_1, wpx_of k7_8.eq_1, wpx_of k7_9.eq_1, wpx_of k7_10.eq_1, wpx_of k7_11.eq_1, wpx_of k7_12.eq_1, wpx_of k7_13.eq_1, wpx_of k7_14.eq_1, wpx_of k7_15.eq_1, wpx_of k7_16.eq_1, wpx_of k7_17.eq_1, wpx_of k7_18.eq_1, wpx_of k7_19.eq_1, wpx_of k7_20.eq_1, wpx_of k7_21.eq_1, wpx_of k7_22.eq_1, wpx_of k7_23.eq_1, wpx_of k7_24.eq_1, wpx_of k7_25.eq_1, wpx_of k7_26.eq_1, wpx_of k7_27.eq_1, wpx_of k7_28.eq_1, wpx_of k7_29.eq_1, wpx_of k7_30.eq_1, wpx_of k7_31.eq_1, wpx_of k7_33.eq_1, wpx_of k7_34.eq_1, wpx_of k7_35.eq_1, wpx_of k7_36.eq_1, wpx_of k7_37.eq_1, wpx_of k7_38.eq_1, wpx_of k7_39.eq_1, kA, kA0, hg, hw, hks, List.length_map, fuseM_norm, hY9, hlen, norm_rows, norm_c, norm_off, loadM_norm, wpx_of b7_32.eq_1, nlt_iff, n0_le, hkl, n0, n1, n2, n3, n4, n5, n6, List.cons_append, List.nil_append, go_sem]); repeat' ((first
    | refine And.intro (Or.inr rfl) ?_
    | ((first | refine cB ?_ ?_ | refine gT ?_ ?_ | refine gF ?_ ?_ | refine dT ?_ ?_ | refine dF ?_ ?_) <;> intro hc)
    | (refine nvmG_Fuse_spec (hm1 _) (kL _) (by omega) ha1 (fun kv' L hY => ?_); rw [fuseM_norm] at hY ⊢)
    | (refine refG_Fuse_spec (hm2' _ _) (hk3 _ _) (by omega) ha1 ha0 (fun kv2' L2 hq0 => ?_); have hp0 := (show ∀ kv' L kv2' L2, MemG (memH (W ++ [.arr 5 [[.int .i64 op, .int .i64 at_, .int .u64 old, .int .u64 v, .slice oK l.length 0 l.length false]] false]) (H.length + 1) H.length n true kv' (norm (fuseW w at_ l)) ++ L) (H.length + 1) H.length n true kv' (norm (fuseW w at_ l)) → MemG (memH (memH (W ++ [.arr 5 [[.int .i64 op, .int .i64 at_, .int .u64 old, .int .u64 v, .slice oK l.length 0 l.length false]] false]) (H.length + 1) H.length n true kv' (norm (fuseW w at_ l)) ++ L) (H.length + 3) (H.length + 2) n true kv2' (fuseW w at_ l) ++ L2) (H.length + 1) H.length n true kv' (norm (fuseW w at_ l)) from hp0') kv' L kv2' L2 (by assumption); have hX9 := (show ∀ kv' L kv2' L2, (memH (memH (W ++ [.arr 5 [[.int .i64 op, .int .i64 at_, .int .u64 old, .int .u64 v, .slice oK l.length 0 l.length false]] false]) (H.length + 1) H.length n true kv' (norm (fuseW w at_ l)) ++ L) (H.length + 3) (H.length + 2) n true kv2' (fuseW w at_ l) ++ L2)[W.length]? = some (.arr 5 [[.int .i64 op, .int .i64 at_, .int .u64 old, .int .u64 v, .slice oK l.length 0 l.length false]] false) from hX9') kv' L kv2' L2; have hF := (show ∀ kv' L kv2' L2, ∀ o x, H[o]? = some x → ∀ L3, (memH (memH (W ++ [.arr 5 [[.int .i64 op, .int .i64 at_, .int .u64 old, .int .u64 v, .slice oK l.length 0 l.length false]] false]) (H.length + 1) H.length n true kv' (norm (fuseW w at_ l)) ++ L) (H.length + 3) (H.length + 2) n true kv2' (fuseW w at_ l) ++ L2 ++ L3)[o]? = some x from hF') kv' L kv2' L2; generalize memH (memH (W ++ [.arr 5 [[.int .i64 op, .int .i64 at_, .int .u64 old, .int .u64 v, .slice oK l.length 0 l.length false]] false]) (H.length + 1) H.length n true kv' (norm (fuseW w at_ l)) ++ L) (H.length + 3) (H.length + 2) n true kv2' (fuseW w at_ l) ++ L2 = X at hq0 hp0 hX9 hF ⊢; have hF2 : Hid (∀ o x, H[o]? = some x → ∀ L3, (X ++ L3)[o]? = some x) := hF; clear hF hY; have hX9k := Keeps.of hX9; have hXc := hq0.cell; have hXck := Keeps.of hXc)
    | refine nvmG_Load_spec (by assumption) ?_
    | refine refG_Load_spec (by assumption) ?_
    | refine nvmG_Words_spec (by assumption) hn1 ?_
    | refine refG_Words_spec (MemG.app (by assumption) _) ?_
    | refine law_words_spec at0 at1 (hlw _ hlen hokr) ?_
    | refine nvmG_Out_spec (MemG.app (by assumption) _) ?_
    | refine refG_Out_spec (MemG.app (by assumption) _) ?_
    | refine law_ints_spec at2 at3 (hlo _ hlen) ?_
    | refine nvmG_Count_spec (MemG.app (by assumption) _) ?_
    | refine nvmG_Off_spec (MemG.app (by assumption) _) ?_
    | refine nvmG_Rows_spec (MemG.app (by assumption) _) ?_) <;> try simp only [*, wpx_of k7_0.eq_1, wpx_of k7_1.eq_1, wpx_of k7_2.eq_1, wpx_of k7_3.eq_1, wpx_of k7_4.eq_1, wpx_of k7_5.eq_1, wpx_of k7_6.eq_1, wpx_of k7_7.eq_1, wpx_of k7_8.eq_1, wpx_of k7_9.eq_1, wpx_of k7_10.eq_1, wpx_of k7_11.eq_1, wpx_of k7_12.eq_1, wpx_of k7_13.eq_1, wpx_of k7_14.eq_1, wpx_of k7_15.eq_1, wpx_of k7_16.eq_1, wpx_of k7_17.eq_1, wpx_of k7_18.eq_1, wpx_of k7_19.eq_1, wpx_of k7_20.eq_1, wpx_of k7_21.eq_1, wpx_of k7_22.eq_1, wpx_of k7_23.eq_1, wpx_of k7_24.eq_1, wpx_of k7_25.eq_1, wpx_of k7_26.eq_1, wpx_of k7_27.eq_1, wpx_of k7_28.eq_1, wpx_of k7_29.eq_1, wpx_of k7_30.eq_1, wpx_of k7_31.eq_1, wpx_of k7_33.eq_1, wpx_of k7_34.eq_1, wpx_of k7_35.eq_1, wpx_of k7_36.eq_1, wpx_of k7_37.eq_1, wpx_of k7_38.eq_1, wpx_of k7_39.eq_1, kA, kA0, hg, hw, hks, List.length_map, fuseM_norm, hY9, hlen, norm_rows, norm_c, norm_off, loadM_norm, wpx_of b7_32.eq_1, nlt_iff, n0_le, hkl, n0, n1, n2, n3, n4, n5, n6, List.cons_append, List.nil_append, go_sem])
      (refine ALoop.keep [8, 0, 1, 5, 7] ?_; simp only [List.map_cons, List.map_nil, go_sem]; refine next (_, fuseW w at_ l, kv', kv2') hks ⟨MemG.app hp0 _, MemG.app hq0 _, fun o x ho => (show ∀ o x, H[o]? = some x → ∀ L3, (X ++ L3)[o]? = some x from hF2) o x ho _, hb⟩)
  · (try simp only [wpx_of k7_0.eq_1, wpx_of k7_1.eq_1, wpx_of k7_2.eq_1, wpx_of k7_3.eq_1, wpx_of k7_4.eq_1, wpx_of k7_5.eq_1, wpx_of k7_6.eq_1, wpx_of k7_7.eq_1, wpx_of k7_8.eq_1, wpx_of k7_9.eq_1, wpx_of k7_10.eq_1, wpx_of k7_11.eq_1, wpx_of k7_12.eq_1, wpx_of k7_13.eq_1, wpx_of k7_14.eq_1, wpx_of k7_15.eq_1, wpx_of k7_16.eq_1, wpx_of k7_17.eq_1, wpx_of k7_18.eq_1, wpx_of k7_19.eq_1, wpx_of k7_20.eq_1, wpx_of k7_21.eq_1, wpx_of k7_22.eq_1, wpx_of k7_23.eq_1, wpx_of k7_24.eq_1, wpx_of k7_25.eq_1, wpx_of k7_26.eq_1, wpx_of k7_27.eq_1, wpx_of k7_28.eq_1, wpx_of k7_29.eq_1, wpx_of k7_30.eq_1, wpx_of k7_31.eq_1, wpx_of k7_33.eq_1, wpx_of k7_34.eq_1, wpx_of k7_35.eq_1, wpx_of k7_36.eq_1, wpx_of k7_37.eq_1, wpx_of k7_38.eq_1, wpx_of k7_39.eq_1, hw, hks, List.length_map, wpx_of b7_32.eq_1, nlt_iff, n0_le, go_sem]); repeat' ((first
    | refine And.intro (Or.inr rfl) ?_
    | ((first | refine cB ?_ ?_ | refine gT ?_ ?_ | refine gF ?_ ?_ | refine dT ?_ ?_ | refine dF ?_ ?_) <;> intro hc)) <;> try simp only [*, wpx_of k7_0.eq_1, wpx_of k7_1.eq_1, wpx_of k7_2.eq_1, wpx_of k7_3.eq_1, wpx_of k7_4.eq_1, wpx_of k7_5.eq_1, wpx_of k7_6.eq_1, wpx_of k7_7.eq_1, wpx_of k7_8.eq_1, wpx_of k7_9.eq_1, wpx_of k7_10.eq_1, wpx_of k7_11.eq_1, wpx_of k7_12.eq_1, wpx_of k7_13.eq_1, wpx_of k7_14.eq_1, wpx_of k7_15.eq_1, wpx_of k7_16.eq_1, wpx_of k7_17.eq_1, wpx_of k7_18.eq_1, wpx_of k7_19.eq_1, wpx_of k7_20.eq_1, wpx_of k7_21.eq_1, wpx_of k7_22.eq_1, wpx_of k7_23.eq_1, wpx_of k7_24.eq_1, wpx_of k7_25.eq_1, wpx_of k7_26.eq_1, wpx_of k7_27.eq_1, wpx_of k7_28.eq_1, wpx_of k7_29.eq_1, wpx_of k7_30.eq_1, wpx_of k7_31.eq_1, wpx_of k7_33.eq_1, wpx_of k7_34.eq_1, wpx_of k7_35.eq_1, wpx_of k7_36.eq_1, wpx_of k7_37.eq_1, wpx_of k7_38.eq_1, wpx_of k7_39.eq_1, hw, hks, List.length_map, wpx_of b7_32.eq_1, nlt_iff, n0_le, go_sem])
end Go.Proofs.Ytfahkkefcdeohaa.Ax
