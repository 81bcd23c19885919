/- Memories of rows: all words, what is out, fuses. Conditions: none. -/
import Derived.Test.YtfahkkefcdeohaaSMem3Z
set_option linter.unusedSimpArgs false
set_option linter.unusedVariables false
namespace Go.Ax.M
open Go Go.Ax
def Upd (H H' : Heap) (a b : Nat) : Prop := ∀ o x, H[o]? = some x → o ≠ a → o ≠ b → H'[o]? = some x
theorem Upd.memH {H : Heap} {oM oR n : Nat} {f : Bool} {kv : AVal} {m : MemM} : Upd H (memH H oM oR n f kv m) oM oR := by
  intro o x h h1 h2
  rw [M.memH, List.getElem?_set_ne (Ne.symm h2), List.getElem?_set_ne (Ne.symm h1)]; exact h
theorem Upd.self {H : Heap} {a b : Nat} : Upd H H a b := fun _ _ h _ _ => h
theorem Upd.app {H H' : Heap} {a b : Nat} (h : Upd H H' a b) (L : Heap) : Upd H (H' ++ L) a b := fun o x ho h1 h2 => Keeps.of (h o x ho h1 h2) L
theorem Upd.trans {H H' H'' : Heap} {a b : Nat} (h : Upd H H' a b) (g : Upd H' H'' a b) : Upd H H'' a b := fun o x ho h1 h2 => g o x (h o x ho h1 h2) h1 h2
theorem Upd.mem {H H' : Heap} {a b oM oR n n' : Nat} {f f' : Bool} {kv kv' : AVal} {m w : MemM} (h : Upd H H' a b) (hm : MemG H a b n f kv m) (hw : MemG H oM oR n' f' kv' w) (h1 : oM ≠ a) (h2 : oR ≠ b) : MemG H' oM oR n' f' kv' w := by
  have h3 : oM ≠ b := by rintro rfl; have := hw.mem; rw [hm.robj] at this; simp [rowsO, memG] at this
  have h4 : oR ≠ a := by rintro rfl; have := hw.robj; rw [hm.mem] at this; simp [rowsO, memG] at this
  refine ⟨h _ _ hw.mem h1 h3, h _ _ hw.robj h4 h2, ?_, hw.len, hw.ok, hw.le, hw.c0, hw.c1, hw.f0, hw.f1, hw.kl⟩
  rcases hw.keep with hk | ⟨p, g, ro, e, hp⟩
  · exact .inl hk
  · refine .inr ⟨p, g, ro, e, h _ _ hp ?_ ?_⟩
    · rintro rfl; rw [hm.mem] at hp; simp [memG] at hp
    · rintro rfl; rw [hm.robj] at hp; simp [rowsO] at hp
theorem MemG.app {H : Heap} {oM oR n : Nat} {f : Bool} {kv : AVal} {m : MemM} (h : MemG H oM oR n f kv m) (L : Heap) : MemG (H ++ L) oM oR n f kv m :=
  ⟨Keeps.of h.mem L, Keeps.of h.robj L, h.keep.app L, h.len, h.ok, h.le, h.c0, h.c1, h.f0, h.f1, h.kl⟩
theorem memH_kv {H : Heap} {oM oR n : Nat} {f : Bool} {kv : AVal} {m m' : MemM} (h : MemG H oM oR n f kv m) (e : m'.rows = m.rows) (kv' : AVal) : memH H oM oR n f kv' m' = H.set oM (memG oR n f kv' m') := by
  unfold memH; rw [e]; exact set_same (by rw [List.getElem?_set_ne h.ne]; exact h.robj)
end Go.Ax.M
namespace Go.Proofs.Ytfahkkefcdeohaa.Ax
open Go Go.Ax Go.Ax.M
section
variable {H : Heap} {K : AVal → Heap → Prop} {oM oR n o p : Nat} {f fl fp ro rp : Bool} {kv : AVal} {m : MemM} {l : List Int}

theorem ints_Clone_spec {s' : Nat} {x : List AVal} {xs : List (List AVal)} (h1 : H[o]? = some (.arr 1 (ints l) ro)) (hp : H[p]? = some (.arr s' (x :: xs) rp)) (hl : l.length ≤ 1000) (hn : l = [] → K (.lit (.slice none 0 0)) H)
    (h : ∀ q g L, (H ++ L)[q]? = some (.arr 1 (ints l) false) → K (.slice q l.length 0 l.length g) (H ++ L)) : ACalls Try.prog 56 [.slice o l.length 0 l.length fl] H K := by
  by_cases h0 : l = []
  · subst h0
    refine ACalls.nilCase h1 hp ?_ ?_
    · refine ACalls.into ok56 (Nat.le_of_ble_eq_true rfl) ?_; (try simp only [c56, wpx_of k56_0.eq_1, wpx_of k56_1.eq_1, wpx_of k56_2.eq_1, go_sem]); repeat' ((first
    | refine And.intro (Or.inr rfl) ?_
    | ((first | refine cB ?_ ?_ | refine gT ?_ ?_ | refine gF ?_ ?_ | refine dT ?_ ?_ | refine dF ?_ ?_) <;> intro hc)) <;> try simp only [*, wpx_of k56_0.eq_1, wpx_of k56_1.eq_1, wpx_of k56_2.eq_1, go_sem])
      all_goals exact hn rfl
    · have hz : ((xs.length + 1 = 0)) = False := eq_false (by omega)
      have kp := Keeps.of hp
      refine ACalls.into ok56 (Nat.le_of_ble_eq_true rfl) ?_; (try simp only [c56, wpx_of k56_0.eq_1, wpx_of k56_1.eq_1, wpx_of k56_2.eq_1, hp, kp, hz, go_sem]); repeat' ((first
    | refine And.intro (Or.inr rfl) ?_
    | ((first | refine cB ?_ ?_ | refine gT ?_ ?_ | refine gF ?_ ?_ | refine dT ?_ ?_ | refine dF ?_ ?_) <;> intro hc)) <;> try simp only [*, wpx_of k56_0.eq_1, wpx_of k56_1.eq_1, wpx_of k56_2.eq_1, hp, kp, hz, go_sem])
      all_goals exact h _ _ _ (by simp [ints])
  · have hn : (l.length = 0) = False := eq_false (by simpa using h0)
    have he : (ints l = []) = False := eq_false (by simpa [ints] using h0)
    have hb : (0 + l.length) * 8 ≤ 140737488355328 := by omega
    have hb2 : l.length * 8 ≤ 140737488355328 := by omega
    have k1 := Keeps.of h1
    have ht : (ints l).take l.length = ints l := by rw [List.take_of_length_le (by simp [ints])]
    refine ACalls.into ok56 (Nat.le_of_ble_eq_true rfl) ?_; (try simp only [c56, wpx_of k56_0.eq_1, wpx_of k56_1.eq_1, wpx_of k56_2.eq_1, hn, he, hb, hb2, h1, k1, ht, go_sem]); repeat' ((first
    | refine And.intro (Or.inr rfl) ?_
    | ((first | refine cB ?_ ?_ | refine gT ?_ ?_ | refine gF ?_ ?_ | refine dT ?_ ?_ | refine dF ?_ ?_) <;> intro hc)) <;> try simp only [*, wpx_of k56_0.eq_1, wpx_of k56_1.eq_1, wpx_of k56_2.eq_1, hn, he, hb, hb2, h1, k1, ht, go_sem])
    all_goals exact h _ _ _ at1

theorem nvmG_On_spec (h : MemG H oM oR n f kv m) (hK : K (.tup []) (memH H oM oR n f kv { m with off := false })) : ACalls Try.prog 36 [.ptr oM 1 0 0] H K := by
  have k1 := Keeps.of h.cell
  have k0 := k1.at
  rw [memH_rows (m' := { m with off := false }) h rfl] at hK
  refine ACalls.into ok36 (Nat.le_of_ble_eq_true rfl) ?_; (try simp only [c36, k0, go_sem]); repeat' ((first
    | refine And.intro (Or.inr rfl) ?_
    | ((first | refine cB ?_ ?_ | refine gT ?_ ?_ | refine gF ?_ ?_ | refine dT ?_ ?_ | refine dF ?_ ?_) <;> intro hc)) <;> try simp only [*, k0, go_sem])
  all_goals exact hK

theorem nvmG_Words_spec (h : MemG H oM oR n f kv m) (h1 : 1 ≤ n) (hK : K (.slice H.length (wordsM m.rows).length 0 (wordsM m.rows).length false) (H ++ [.arr 1 (words (wordsM m.rows)) false])) :
    ACalls Try.prog 21 [.ptr oM 1 0 0] H K := by
  have k1 := Keeps.of h.cell
  have k2 := Keeps.of h.cells
  have k10 := k1.at
  have hle := h.le
  have hn8 := h.w8
  have c1 : ((n : Int) * 8 * 8 ≤ 140737488355328) = True := eq_true (by omega)
  have c2 : ((n : Int) * 8 ≤ 9223372036854775807) = True := eq_true (by omega)
  have c3 : ((0 : Int) ≤ (n : Int) * 8) = True := eq_true (by omega)
  have c4 : ((0 : Int) = (n : Int) * 8) = False := eq_false (by omega)
  refine ACalls.gc ?_
  refine ACalls.into ok21 (Nat.le_of_ble_eq_true rfl) ?_; (try simp only [c21, wpx_of k21_0.eq_1, wpx_of k21_1.eq_1, wpx_of k21_3.eq_1, wpx_of k21_4.eq_1, k1, k10, hn8, c1, c2, c3, c4, n0_le, go_sem]); repeat' ((first
    | refine And.intro (Or.inr rfl) ?_
    | ((first | refine cB ?_ ?_ | refine gT ?_ ?_ | refine gF ?_ ?_ | refine dT ?_ ?_ | refine dF ?_ ?_) <;> intro hc)) <;> try simp only [*, wpx_of k21_0.eq_1, wpx_of k21_1.eq_1, wpx_of k21_3.eq_1, wpx_of k21_4.eq_1, k1, k10, hn8, c1, c2, c3, c4, n0_le, go_sem])
  refine ALoop.keep [3, 18, 16, 17] ?_; simp only [List.map_cons, List.map_nil, go_sem]
  refine ALoop.acc (fun k G => [(3, .slice H.length (wordsM (m.rows.take k)).length 0 (wordsM (m.rows.take k)).length false), (18, .int .i64 (k : Int))]) (fun k G => H ++ .arr 1 (words (wordsM (m.rows.take k))) false :: G) (fun _ _ => True) n ?_ (a0 := []) trivial
  intro k G hk _ next
  refine ALoop.hid fun W hW => ?_
  have hn : Hid (m.rows.length = n) := h.len
  have k2 := k2.ex hW.ex
  have k20 := k2.at
  have ko := hW.keep0
  have ko0 := ko.at
  have kos := ko.set
  have hw := wrap_succ (k := k) (by omega)
  refine ALoop.unfold ?_
  by_cases hkn : k < n
  · have hkr : k < m.rows.length := by have hn : m.rows.length = n := hn; omega
    have hr := row_ok h.ok hkr
    have hs := wordsM_succ (rows := m.rows) (k := k) hkr
    have hlk := wordsM_len (rows := m.rows.take k) (fun r hr => h.ok r (List.mem_of_mem_take hr))
    have hg : (m.rows.map RowM.cells)[k]? = some (row m.rows k).cells := by rw [List.getElem?_map, row_some hkr]; rfl
    have hlm := h.mlen
    rw [List.length_take] at hlk
    generalize row m.rows k = r at *
    obtain ⟨la, nw, out, sent⟩ := r
    obtain ⟨a0, a1, a2, a3, a4, a5, a6, a7, rfl⟩ := eight hr.la
    obtain ⟨b0, b1, b2, b3, b4, b5, b6, b7, rfl⟩ := eight hr.nw
    simp only [RowM.cells, u64s, List.map_cons, List.map_nil, List.cons_append, List.nil_append] at hg
    have hb : ((wordsM (m.rows.take k)).length + 8) * 8 ≤ 140737488355328 := by omega
    generalize wordsM (m.rows.take k) = A at *
    clear hlk
    (try simp only [wpx_of k21_0.eq_1, wpx_of k21_1.eq_1, wpx_of k21_3.eq_1, wpx_of k21_4.eq_1, k2, k20, ko, ko0, kos, hw, hg, hlm, hkn, hb, wpx_of b21_2.eq_1, nlt_iff, n0_le, List.cons_append, List.nil_append, go_sem]); repeat' ((first
    | refine And.intro (Or.inr rfl) ?_
    | ((first | refine cB ?_ ?_ | refine gT ?_ ?_ | refine gF ?_ ?_ | refine dT ?_ ?_ | refine dF ?_ ?_) <;> intro hc)) <;> try simp only [*, wpx_of k21_0.eq_1, wpx_of k21_1.eq_1, wpx_of k21_3.eq_1, wpx_of k21_4.eq_1, k2, k20, ko, ko0, kos, hw, hg, hlm, hkn, hb, wpx_of b21_2.eq_1, nlt_iff, n0_le, List.cons_append, List.nil_append, go_sem])
    have hW : W = _ := hW
    subst hW
    have e : words A ++ [[.int .u64 b0], [.int .u64 b1], [.int .u64 b2], [.int .u64 b3], [.int .u64 b4], [.int .u64 b5], [.int .u64 b6], [.int .u64 b7]] = words (A ++ [b0, b1, b2, b3, b4, b5, b6, b7]) := by rw [words_append]; rfl
    rw [e]
    have nx := next (G ++ [.arr 18 [[.int .u64 a0, .int .u64 a1, .int .u64 a2, .int .u64 a3, .int .u64 a4, .int .u64 a5, .int .u64 a6, .int .u64 a7, .int .u64 b0, .int .u64 b1, .int .u64 b2, .int .u64 b3, .int .u64 b4, .int .u64 b5, .int .u64 b6, .int .u64 b7, .bool out, .bool sent]] false]) hkn trivial
    rw [hs, show (A ++ [b0, b1, b2, b3, b4, b5, b6, b7]).length = A.length + 8 by simp] at nx
    refine ALoop.heap (H' := H ++ .arr 1 (words (A ++ [b0, b1, b2, b3, b4, b5, b6, b7])) false :: (G ++ [.arr 18 [[.int .u64 a0, .int .u64 a1, .int .u64 a2, .int .u64 a3, .int .u64 a4, .int .u64 a5, .int .u64 a6, .int .u64 a7, .int .u64 b0, .int .u64 b1, .int .u64 b2, .int .u64 b3, .int .u64 b4, .int .u64 b5, .int .u64 b6, .int .u64 b7, .bool out, .bool sent]] false])) ?_ ?_
    · simp
    · (refine ALoop.keep [3, 18, 16, 17] ?_; simp only [List.map_cons, List.map_nil, go_sem]; refine nx)
  · have hk : k = n := by omega
    subst hk
    (try simp only [wpx_of k21_0.eq_1, wpx_of k21_1.eq_1, wpx_of k21_3.eq_1, wpx_of k21_4.eq_1, k2, k20, ko, ko0, hw, hkn, wpx_of b21_2.eq_1, nlt_iff, n0_le, List.cons_append, List.nil_append, go_sem]); repeat' ((first
    | refine And.intro (Or.inr rfl) ?_
    | ((first | refine cB ?_ ?_ | refine gT ?_ ?_ | refine gF ?_ ?_ | refine dT ?_ ?_ | refine dF ?_ ?_) <;> intro hc)) <;> try simp only [*, wpx_of k21_0.eq_1, wpx_of k21_1.eq_1, wpx_of k21_3.eq_1, wpx_of k21_4.eq_1, k2, k20, ko, ko0, hw, hkn, wpx_of b21_2.eq_1, nlt_iff, n0_le, List.cons_append, List.nil_append, go_sem])
    have hW : W = _ := hW
    subst hW
    rw [List.take_of_length_le (by have hn : m.rows.length = k := hn; omega)]
    exact Gc.slice (i := 0) rfl words_plain hK

theorem nvmG_Out_spec (h : MemG H oM oR n f kv m) (hK : K (.slice H.length (outM m.rows).length 0 (outM m.rows).length false) (H ++ [.arr 1 (ints (outM m.rows)) false])) :
    ACalls Try.prog 20 [.ptr oM 1 0 0] H K := by
  have k1 := Keeps.of h.cell
  have k2 := Keeps.of h.cells
  have k10 := k1.at
  have hle := h.le
  refine ACalls.gc ?_
  obtain ⟨p, hp⟩ : ∃ p : Nat → Bool, ∀ k, p k = (row m.rows k).out := ⟨fun k => (row m.rows k).out, fun _ => rfl⟩
  have hfo : outM m.rows = pick p n := by simp only [outM, h.len]; congr 1; funext k; exact (hp k).symm
  rw [hfo] at hK
  clear hfo
  refine ACalls.into ok20 (Nat.le_of_ble_eq_true rfl) ?_; (try simp only [c20, wpx_of k20_0.eq_1, wpx_of k20_1.eq_1, wpx_of k20_2.eq_1, wpx_of k20_4.eq_1, k1, k10, n0_le, go_sem]); repeat' ((first
    | refine And.intro (Or.inr rfl) ?_
    | ((first | refine cB ?_ ?_ | refine gT ?_ ?_ | refine gF ?_ ?_ | refine dT ?_ ?_ | refine dF ?_ ?_) <;> intro hc)) <;> try simp only [*, wpx_of k20_0.eq_1, wpx_of k20_1.eq_1, wpx_of k20_2.eq_1, wpx_of k20_4.eq_1, k1, k10, n0_le, go_sem])
  refine ALoop.keep [3, 11, 9, 10] ?_; simp only [List.map_cons, List.map_nil, go_sem]
  refine ALoop.lay 1 ?_
  refine ALoop.acc (fun k G => [(3, .slice H.length (pick p k).length 0 (pick p k).length false), (11, .int .i64 (k : Int))]) (fun k G => H ++ .arr 1 (ints (pick p k)) false :: G) (fun k G => True) n ?_ (a0 := []) trivial
  intro k G hk _ next
  refine ALoop.hid fun W hW => ?_
  have k2 := k2.ex hW.ex
  have k20 := k2.at
  have ko := hW.keep0
  have ko0 := ko.at
  have kos := ko.set
  have hb : ((pick p k).length + 1) * 8 ≤ 140737488355328 := by have := pick_length (p := p) (k := k); omega
  refine ALoop.unfold ?_
  have hw := wrap_succ (k := k) (by omega)
  by_cases hkn : k < n
  · have hkr : k < m.rows.length := by rw [h.len]; exact hkn
    have hr := row_ok h.ok hkr
    have hpk := hp k
    have hg : (m.rows.map RowM.cells)[k]? = some (row m.rows k).cells := by rw [List.getElem?_map, row_some hkr]; rfl
    have hlm := h.mlen
    generalize row m.rows k = r at *
    obtain ⟨la, nw, out, sent⟩ := r
    obtain ⟨a0, a1, a2, a3, a4, a5, a6, a7, rfl⟩ := eight hr.la
    obtain ⟨b0, b1, b2, b3, b4, b5, b6, b7, rfl⟩ := eight hr.nw
    simp only [RowM.cells, u64s, List.map_cons, List.map_nil, List.cons_append, List.nil_append] at hg
    clear hp
    have hW' : W = _ := hW
    cases out with
    | true =>
      have e := pick_t hpk
      rw [e] at next
      clear e hpk
      (try simp only [wpx_of k20_0.eq_1, wpx_of k20_1.eq_1, wpx_of k20_2.eq_1, wpx_of k20_4.eq_1, k2, k20, ko, ko0, kos, hw, hg, hlm, hkn, hb, wpx_of b20_3.eq_1, nlt_iff, n0_le, List.cons_append, List.nil_append, go_sem]); repeat' ((first
    | refine And.intro (Or.inr rfl) ?_
    | ((first | refine cB ?_ ?_ | refine gT ?_ ?_ | refine gF ?_ ?_ | refine dT ?_ ?_ | refine dF ?_ ?_) <;> intro hc)) <;> try simp only [*, wpx_of k20_0.eq_1, wpx_of k20_1.eq_1, wpx_of k20_2.eq_1, wpx_of k20_4.eq_1, k2, k20, ko, ko0, kos, hw, hg, hlm, hkn, hb, wpx_of b20_3.eq_1, nlt_iff, n0_le, List.cons_append, List.nil_append, go_sem])
      have nx := next (G ++ [.arr 18 [[.int .u64 a0, .int .u64 a1, .int .u64 a2, .int .u64 a3, .int .u64 a4, .int .u64 a5, .int .u64 a6, .int .u64 a7, .int .u64 b0, .int .u64 b1, .int .u64 b2, .int .u64 b3, .int .u64 b4, .int .u64 b5, .int .u64 b6, .int .u64 b7, .bool true, .bool sent]] false, .arr 1 [[.int .i64 (k : Int)]] false]) hkn trivial
      rw [show (pick p k ++ [(k : Int)]).length = (pick p k).length + 1 by simp] at nx
      refine ALoop.heap (H' := H ++ .arr 1 (ints (pick p k ++ [(k : Int)])) false :: (G ++ [.arr 18 [[.int .u64 a0, .int .u64 a1, .int .u64 a2, .int .u64 a3, .int .u64 a4, .int .u64 a5, .int .u64 a6, .int .u64 a7, .int .u64 b0, .int .u64 b1, .int .u64 b2, .int .u64 b3, .int .u64 b4, .int .u64 b5, .int .u64 b6, .int .u64 b7, .bool true, .bool sent]] false, .arr 1 [[.int .i64 (k : Int)]] false])) ?_ ?_
      · subst hW'; simp [ints_append, ints]
      · (refine ALoop.keep [3, 11, 9, 10] ?_; simp only [List.map_cons, List.map_nil, go_sem]; refine nx)
    | false =>
      have e := pick_f hpk
      rw [e] at next
      clear e hpk
      (try simp only [wpx_of k20_0.eq_1, wpx_of k20_1.eq_1, wpx_of k20_2.eq_1, wpx_of k20_4.eq_1, k2, k20, ko, ko0, kos, hw, hg, hlm, hkn, hb, wpx_of b20_3.eq_1, nlt_iff, n0_le, List.cons_append, List.nil_append, go_sem]); repeat' ((first
    | refine And.intro (Or.inr rfl) ?_
    | ((first | refine cB ?_ ?_ | refine gT ?_ ?_ | refine gF ?_ ?_ | refine dT ?_ ?_ | refine dF ?_ ?_) <;> intro hc)) <;> try simp only [*, wpx_of k20_0.eq_1, wpx_of k20_1.eq_1, wpx_of k20_2.eq_1, wpx_of k20_4.eq_1, k2, k20, ko, ko0, kos, hw, hg, hlm, hkn, hb, wpx_of b20_3.eq_1, nlt_iff, n0_le, List.cons_append, List.nil_append, go_sem])
      have nx := next (G ++ [.arr 18 [[.int .u64 a0, .int .u64 a1, .int .u64 a2, .int .u64 a3, .int .u64 a4, .int .u64 a5, .int .u64 a6, .int .u64 a7, .int .u64 b0, .int .u64 b1, .int .u64 b2, .int .u64 b3, .int .u64 b4, .int .u64 b5, .int .u64 b6, .int .u64 b7, .bool false, .bool sent]] false]) hkn trivial
      refine ALoop.heap (H' := H ++ .arr 1 (ints (pick p k)) false :: (G ++ [.arr 18 [[.int .u64 a0, .int .u64 a1, .int .u64 a2, .int .u64 a3, .int .u64 a4, .int .u64 a5, .int .u64 a6, .int .u64 a7, .int .u64 b0, .int .u64 b1, .int .u64 b2, .int .u64 b3, .int .u64 b4, .int .u64 b5, .int .u64 b6, .int .u64 b7, .bool false, .bool sent]] false])) ?_ ?_
      · subst hW'; simp
      · (refine ALoop.keep [3, 11, 9, 10] ?_; simp only [List.map_cons, List.map_nil, go_sem]; refine nx)
  · have hk : k = n := by omega
    subst hk
    (try simp only [wpx_of k20_0.eq_1, wpx_of k20_1.eq_1, wpx_of k20_2.eq_1, wpx_of k20_4.eq_1, k2, k20, ko, ko0, kos, hw, hkn, hb, wpx_of b20_3.eq_1, nlt_iff, n0_le, List.cons_append, List.nil_append, go_sem]); repeat' ((first
    | refine And.intro (Or.inr rfl) ?_
    | ((first | refine cB ?_ ?_ | refine gT ?_ ?_ | refine gF ?_ ?_ | refine dT ?_ ?_ | refine dF ?_ ?_) <;> intro hc)) <;> try simp only [*, wpx_of k20_0.eq_1, wpx_of k20_1.eq_1, wpx_of k20_2.eq_1, wpx_of k20_4.eq_1, k2, k20, ko, ko0, kos, hw, hkn, hb, wpx_of b20_3.eq_1, nlt_iff, n0_le, List.cons_append, List.nil_append, go_sem])
    have hW : W = _ := hW
    subst hW
    exact Gc.slice (i := 0) rfl ints_plain hK

theorem nvmG_Fuse_spec {calls : Int} (h : MemG H oM oR n f kv m) (ho : H[o]? = some (.arr 1 (ints l) ro)) (hl : l.length ≤ 1000) (hc : calls ≤ 9223372036854775807) (hK : ∀ kv' L, MemG (memH H oM oR n f kv' (fuseM m calls l) ++ L) oM oR n f kv' (fuseM m calls l) → K (.tup []) (memH H oM oR n f kv' (fuseM m calls l) ++ L)) :
    ACalls Try.prog 37 [.ptr oM 1 0 0, .int .i64 calls, .slice o l.length 0 l.length fl] H K := by
  have k1 := Keeps.of h.cell
  have k0 := k1.at
  have ks := k1.self0
  cases hoff : m.off with
  | true =>
    have e : fuseM m calls l = m := by unfold fuseM; rw [hoff]; rfl
    rw [e] at hK
    rw [hoff] at k0
    have hK' := hK kv []
    rw [List.append_nil, memH_self h] at hK'
    refine ACalls.into ok37 (Nat.le_of_ble_eq_true rfl) ?_; (try simp only [c37, wpx_of k37_0.eq_1, wpx_of k37_1.eq_1, k0, go_sem]); repeat' ((first
    | refine And.intro (Or.inr rfl) ?_
    | ((first | refine cB ?_ ?_ | refine gT ?_ ?_ | refine gF ?_ ?_ | refine dT ?_ ?_ | refine dF ?_ ?_) <;> intro hc)) <;> try simp only [*, wpx_of k37_0.eq_1, wpx_of k37_1.eq_1, k0, go_sem])
    all_goals exact hK' h
  | false =>
    have e : fuseM m calls l = { m with fuse := if 0 > calls then 0 else calls, keep := l } := by unfold fuseM; rw [hoff]; rfl
    rw [e] at hK
    have kO := k0
    rw [hoff] at k0 k1
    have hf0 : (0 : Int) ≤ (if 0 > calls then 0 else calls) := by split <;> omega
    have hf1 : (if 0 > calls then 0 else calls) ≤ (9223372036854775807 : Int) := by split <;> omega
    have ho2 : ∀ y, (H.set oM y)[o]? = some (.arr 1 (ints l) ro) := fun y => by
      rw [List.getElem?_set_ne (by rintro rfl; rw [kO] at ho; simp at ho)]; exact ho
    have fin : ∀ (kv' : AVal) (L : Heap) (ys : List AVal), KeepAt (H.set oM (.arr 5 [ys] false) ++ L) kv' l → K (.tup []) ((H.set oM (.arr 5 [ys] false) ++ L).set oM (.arr 5 [[.slice oR n 0 n f, .bool false, .int .i64 m.c, .int .i64 (if 0 > calls then 0 else calls), kv']] false)) := by
      intro kv' L ys hk
      have lM := (List.getElem?_eq_some_iff.1 h.mem).1
      have e3 := set_app_set h.mem L (.arr 5 [ys] false) (.arr 5 [[.slice oR n 0 n f, .bool false, .int .i64 m.c, .int .i64 (if 0 > calls then 0 else calls), kv']] false)
      have e2 : AObj.arr 5 [[.slice oR n 0 n f, .bool false, .int .i64 m.c, .int .i64 (if 0 > calls then 0 else calls), kv']] false = memG oR n f kv' { m with fuse := if 0 > calls then 0 else calls, keep := l } := by unfold memG; simp only [hoff]
      have e4 : memH H oM oR n f kv' { m with fuse := if 0 > calls then 0 else calls, keep := l } ++ L = (H.set oM (.arr 5 [ys] false) ++ L).set oM (.arr 5 [[.slice oR n 0 n f, .bool false, .int .i64 m.c, .int .i64 (if 0 > calls then 0 else calls), kv']] false) := by rw [memH_kv (m' := { m with fuse := if 0 > calls then 0 else calls, keep := l }) h rfl, e3, e2]
      have hK' := hK kv' L
      rw [e4] at hK'
      refine hK' ⟨?_, ?_, ?_, h.len, h.ok, h.le, h.c0, h.c1, by simp only; omega, hf1, hl⟩
      · rw [e3, e2]
        exact Keeps.of (List.getElem?_set_self lM) L
      · rw [e3]
        exact Keeps.of (by rw [List.getElem?_set_ne h.ne]; exact h.robj) L
      · rcases hk with ⟨h1, h2⟩ | ⟨q, g, r, h1, h2⟩
        · exact .inl ⟨h1, h2⟩
        · refine .inr ⟨q, g, r, h1, ?_⟩
          rw [List.getElem?_set_ne]
          · exact h2
          · rintro rfl
            rw [List.getElem?_append_left (by rw [List.length_set]; exact lM), List.getElem?_set_self lM] at h2
            simp at h2
    have kM : ∀ y L, (H.set oM y ++ L)[oM]? = some y := fun y L => k1.self y L
    have fin2 : ∀ ys, l = [] → K (.tup []) ((H.set oM (.arr 5 [ys] false)).set oM (.arr 5 [[.slice oR n 0 n f, .bool false, .int .i64 m.c, .int .i64 (if 0 > calls then 0 else calls), .lit (.slice none 0 0)]] false)) := fun ys e => by
      have := fin (.lit (.slice none 0 0)) [] ys (.inl ⟨rfl, e⟩)
      rwa [List.append_nil] at this
    clear hf0 hf1
    refine ACalls.into ok37 (Nat.le_of_ble_eq_true rfl) ?_; (try simp only [c37, wpx_of k37_0.eq_1, wpx_of k37_1.eq_1, k0, ks, kM, List.set_set, go_sem]); repeat' ((first
    | refine And.intro (Or.inr rfl) ?_
    | ((first | refine cB ?_ ?_ | refine gT ?_ ?_ | refine gF ?_ ?_ | refine dT ?_ ?_ | refine dF ?_ ?_) <;> intro hc)
    | refine ints_Clone_spec (ho2 _) (ks _) hl (fun e => ?_) (fun q g L hk => ?_)) <;> try simp only [*, wpx_of k37_0.eq_1, wpx_of k37_1.eq_1, k0, ks, kM, List.set_set, go_sem])
    · have := fin2 [] e
      simpa only [List.set_set] using this
    · exact fin _ _ _ (.inr ⟨q, g, false, rfl, hk⟩)
end
end Go.Proofs.Ytfahkkefcdeohaa.Ax
