/- Memories of rows, with power, fuses and falls: what the methods make of them. Conditions: none. -/
import Derived.Test.YtfahkkefcdeohaaSNvmZ
set_option linter.unusedSimpArgs false
set_option linter.unusedVariables false
namespace Go.Ax.M
open Go Go.Ax
def words (l : List Int) : List (List AVal) := l.map fun x => [.int .u64 x]
@[go_sem] theorem words_length {l : List Int} : (words l).length = l.length := by simp [words]
theorem words_get {l : List Int} {k : Nat} (h : k < l.length) : (words l)[k]? = some [.int .u64 (l.getD k 0)] := by simp [words, h, List.getD]
theorem words_append {a b : List Int} : words (a ++ b) = words a ++ words b := by simp [words]
theorem words_plain {l : List Int} : ∀ x ∈ words l, ∀ a ∈ x, a.plain = true := by
  intro x hx a ha
  obtain ⟨n, -, rfl⟩ := List.mem_map.1 hx
  simp at ha; subst ha; rfl
def hasI (l : List Int) (v : Int) : Bool := l.any fun x => decide (x = v)
def wordsM (rows : List RowM) : List Int := rows.flatMap RowM.nw
theorem row_ok {rows : List RowM} (h : ∀ r ∈ rows, r.ok) {k : Nat} (hk : k < rows.length) : (row rows k).ok := by
  have : row rows k ∈ rows := by simp [row, List.getD, hk]
  exact h _ this
theorem row_some {rows : List RowM} {k : Nat} (hk : k < rows.length) : rows[k]? = some (row rows k) := by simp [row, List.getD, hk]
theorem wordsM_len {rows : List RowM} (h : ∀ r ∈ rows, r.ok) : (wordsM rows).length = 8 * rows.length := by
  induction rows with
  | nil => rfl
  | cons r l ih =>
    have := ih fun x hx => h x (List.mem_cons_of_mem _ hx)
    simp only [wordsM, List.flatMap_cons, List.length_append, List.length_cons] at this ⊢
    rw [this, (h r List.mem_cons_self).nw]; omega
theorem wordsM_succ {rows : List RowM} {k : Nat} (hk : k < rows.length) : wordsM (rows.take (k + 1)) = wordsM (rows.take k) ++ (row rows k).nw := by
  have e : row rows k = rows[k] := by simp [row, List.getD, hk]
  rw [e, List.take_succ_eq_append_getElem hk, wordsM, List.flatMap_append]; simp [wordsM]
def turnedR (g : Nat → RowM → RowM) (rows : List RowM) (k : Nat) : List RowM := (List.range rows.length).map fun i => if i < k then g i (row rows i) else row rows i
theorem turnedR_len {g : Nat → RowM → RowM} {rows : List RowM} {k : Nat} : (turnedR g rows k).length = rows.length := by simp [turnedR]
theorem turnedR_row {g : Nat → RowM → RowM} {rows : List RowM} {k i : Nat} (hi : i < rows.length) : row (turnedR g rows k) i = if i < k then g i (row rows i) else row rows i := by simp [turnedR, row, List.getD, hi]
theorem rows_ext {a b : List RowM} (hl : a.length = b.length) (h : ∀ i, i < b.length → row a i = row b i) : a = b := by
  apply List.ext_getElem hl
  intro i h1 h2
  have := h i h2
  simpa [row, List.getD, h1, h2] using this
theorem turnedR_zero {g : Nat → RowM → RowM} {rows : List RowM} : turnedR g rows 0 = rows := rows_ext turnedR_len fun i hi => by rw [turnedR_row hi]; simp
theorem row_set {rows : List RowM} {k i : Nat} {r : RowM} (hi : i < rows.length) : row (rows.set k r) i = if i = k then r else row rows i := by
  simp only [row, List.getD, List.getElem?_set]
  by_cases e : i = k
  · subst e; simp [hi]
  · rw [if_neg (fun h => e h.symm), if_neg e]
theorem turnedR_succ {g : Nat → RowM → RowM} {rows : List RowM} {k : Nat} (hk : k < rows.length) : turnedR g rows (k + 1) = (turnedR g rows k).set k (g k (row (turnedR g rows k) k)) := by
  refine rows_ext (by simp [turnedR_len]) fun i hi' => ?_
  have hi : i < rows.length := by simpa [turnedR_len] using hi'
  clear hi'
  rw [row_set (by rw [turnedR_len]; exact hi), turnedR_row hi]
  by_cases e : i = k
  · subst e; rw [if_pos (by omega), if_pos rfl, turnedR_row hi, if_neg (by omega)]
  · rw [if_neg e, turnedR_row hi]
    by_cases h : i < k
    · rw [if_pos (by omega), if_pos h]
    · rw [if_neg (by omega), if_neg h]
theorem turnedR_ok {g : Nat → RowM → RowM} (hg : ∀ i r, r.ok → (g i r).ok) {rows : List RowM} (h : ∀ r ∈ rows, r.ok) (k : Nat) : ∀ r ∈ turnedR g rows k, r.ok := by
  intro r hr
  simp only [turnedR, List.mem_map, List.mem_range] at hr
  obtain ⟨i, hi, rfl⟩ := hr
  have := row_ok h hi
  split
  · exact hg _ _ this
  · exact this
theorem hasI_take {l : List Int} {v : Int} {k : Nat} (hk : k < l.length) : hasI (l.take (k + 1)) v = (hasI (l.take k) v || decide (l.getD k 0 = v)) := by
  rw [List.take_succ_eq_append_getElem hk, hasI, List.any_append]; simp [hasI, List.getD, hk]
theorem hasI_hit {l : List Int} {v : Int} {k : Nat} (hk : k < l.length) (h : l.getD k 0 = v) : hasI l v = true := by
  simp only [hasI, List.any_eq_true]
  exact ⟨l[k], List.getElem_mem hk, by simpa [List.getD, hk] using h⟩
structure MemM where
  rows : List RowM
  off : Bool
  c : Int
  fuse : Int
  keep : List Int
def fallG (keep : List Int) (i : Nat) (r : RowM) : RowM := rowFall (hasI keep (i : Int)) r
def fenceG (_ : Nat) (r : RowM) : RowM := rowFence r
def fallR (keep : List Int) (rows : List RowM) : List RowM := turnedR (fallG keep) rows rows.length
def fenceR (rows : List RowM) : List RowM := turnedR fenceG rows rows.length
def crashM (m : MemM) (keep : List Int) : MemM := bif m.off then m else { m with rows := fallR keep m.rows, off := true, fuse := 0 }
def burnM (m : MemM) : MemM × Bool := if 0 < m.fuse then (if m.fuse = 1 then (crashM { m with fuse := 0 } m.keep, false) else ({ m with fuse := m.fuse - 1, c := m.c + 1 }, true)) else ({ m with c := m.c + 1 }, true)
def doneM (m : MemM) (e : Int) (g : List RowM → List RowM) : MemM × Int := if e = 0 then (bif (burnM m).2 then ({ (burnM m).1 with rows := g (burnM m).1.rows }, 0) else ((burnM m).1, 12)) else (m, e)
def memG (oR n : Nat) (f : Bool) (kv : AVal) (m : MemM) : AObj := .arr 5 [[.slice oR n 0 n f, .bool m.off, .int .i64 m.c, .int .i64 m.fuse, kv]] false
def KeepAt (H : Heap) (kv : AVal) (l : List Int) : Prop := (kv = .lit (.slice none 0 0) ∧ l = []) ∨ ∃ o f ro, kv = .slice o l.length 0 l.length f ∧ H[o]? = some (.arr 1 (ints l) ro)
structure MemG (H : Heap) (oM oR n : Nat) (f : Bool) (kv : AVal) (m : MemM) : Prop where
  mem : H[oM]? = some (memG oR n f kv m)
  robj : H[oR]? = some (rowsO m.rows)
  keep : KeepAt H kv m.keep
  len : m.rows.length = n
  ok : ∀ r ∈ m.rows, r.ok
  le : n ≤ 4096
  c0 : 0 ≤ m.c
  c1 : m.c ≤ 1000000
  f0 : -9223372036854775808 ≤ m.fuse
  f1 : m.fuse ≤ 9223372036854775807
  kl : m.keep.length ≤ 1000
def memH (H : Heap) (oM oR n : Nat) (f : Bool) (kv : AVal) (m : MemM) : Heap := (H.set oM (memG oR n f kv m)).set oR (rowsO m.rows)
section
variable {H : Heap} {oM oR n : Nat} {f : Bool} {kv : AVal} {m m' : MemM}
theorem MemG.ne (h : MemG H oM oR n f kv m) : oM ≠ oR := by
  rintro rfl; have := h.mem; rw [h.robj] at this; simp [rowsO, memG] at this
theorem memH_rows (h : MemG H oM oR n f kv m) (e : m'.rows = m.rows) : memH H oM oR n f kv m' = H.set oM (memG oR n f kv m') := by
  unfold memH; rw [e]; exact set_same (by rw [List.getElem?_set_ne h.ne]; exact h.robj)
theorem memH_self (h : MemG H oM oR n f kv m) : memH H oM oR n f kv m = H := by rw [memH_rows h rfl]; exact set_same h.mem
theorem memH_setM (h : oM ≠ oR) {x : AObj} : memH (H.set oM x) oM oR n f kv m' = memH H oM oR n f kv m' := by
  unfold memH; rw [List.set_set]
theorem KeepAt.set {o : Nat} {x y : AObj} {l : List Int} (hk : KeepAt H kv l) (ho : H[o]? = some x) (hx : ∀ xs ro, x ≠ .arr 1 xs ro) : KeepAt (H.set o y) kv l := by
  rcases hk with h | ⟨p, f, ro, e, hp⟩
  · exact .inl h
  · refine .inr ⟨p, f, ro, e, ?_⟩
    rw [List.getElem?_set_ne (by rintro rfl; rw [ho] at hp; exact hx _ _ (Option.some.inj hp))]; exact hp
theorem KeepAt.app {l : List Int} (hk : KeepAt H kv l) (L : Heap) : KeepAt (H ++ L) kv l := by
  rcases hk with h | ⟨p, f, ro, e, hp⟩
  · exact .inl h
  · exact .inr ⟨p, f, ro, e, Keeps.of hp L⟩
theorem MemG.put (h : MemG H oM oR n f kv m) (hl : m'.rows.length = n) (ok : ∀ r ∈ m'.rows, r.ok) (c0 : 0 ≤ m'.c) (c1 : m'.c ≤ 1000000) (f0 : -9223372036854775808 ≤ m'.fuse) (f1 : m'.fuse ≤ 9223372036854775807) (hk : m'.keep = m.keep) :
    MemG (memH H oM oR n f kv m') oM oR n f kv m' := by
  have lM := (List.getElem?_eq_some_iff.1 h.mem).1
  have lR := (List.getElem?_eq_some_iff.1 h.robj).1
  refine ⟨?_, ?_, ?_, hl, ok, h.le, c0, c1, f0, f1, by rw [hk]; exact h.kl⟩
  · rw [memH, List.getElem?_set_ne (Ne.symm h.ne)]; exact List.getElem?_set_self lM
  · exact List.getElem?_set_self (by rw [List.length_set]; exact lR)
  · rw [hk]
    exact (h.keep.set h.mem (by simp [memG])).set (x := rowsO m.rows) (by rw [List.getElem?_set_ne h.ne]; exact h.robj) (by simp [rowsO])
theorem crashM_keep (m : MemM) (l : List Int) : (crashM m l).keep = m.keep := by unfold crashM; cases m.off <;> rfl
theorem crashM_c (m : MemM) (l : List Int) : (crashM m l).c = m.c := by unfold crashM; cases m.off <;> rfl
theorem crashM_len (m : MemM) (l : List Int) : (crashM m l).rows.length = m.rows.length := by unfold crashM; cases m.off <;> simp [fallR, turnedR_len]
theorem crashM_ok {m : MemM} (h : ∀ r ∈ m.rows, r.ok) (l : List Int) : ∀ r ∈ (crashM m l).rows, r.ok := by
  unfold crashM; cases m.off
  · exact turnedR_ok (fun i r h => fall_ok h _) h _
  · exact h
theorem burnM_keep (m : MemM) : (burnM m).1.keep = m.keep := by unfold burnM; split; split; exact crashM_keep _ _; rfl; rfl
theorem burnM_len (m : MemM) : (burnM m).1.rows.length = m.rows.length := by unfold burnM; split; split; exact crashM_len _ _; rfl; rfl
theorem burnM_ok {m : MemM} (h : ∀ r ∈ m.rows, r.ok) : ∀ r ∈ (burnM m).1.rows, r.ok := by unfold burnM; split; split; exact crashM_ok (m := { m with fuse := 0 }) h _; exact h; exact h
theorem burnM_c (m : MemM) : m.c ≤ (burnM m).1.c ∧ (burnM m).1.c ≤ m.c + 1 := by
  unfold burnM; split
  · split
    · simp only [crashM_c]; omega
    · simp only; omega
  · simp only; omega
theorem burnM_fuse {m : MemM} (f0 : -9223372036854775808 ≤ m.fuse) (f1 : m.fuse ≤ 9223372036854775807) : -9223372036854775808 ≤ (burnM m).1.fuse ∧ (burnM m).1.fuse ≤ 9223372036854775807 := by
  unfold burnM; split
  · split
    · unfold crashM; cases m.off <;> simp
    · simp only; omega
  · exact ⟨f0, f1⟩
theorem MemG.burn (h : MemG H oM oR n f kv m) (hc : m.c + 1 ≤ 1000000) : MemG (memH H oM oR n f kv (burnM m).1) oM oR n f kv (burnM m).1 :=
  have := burnM_c m; have hf := burnM_fuse h.f0 h.f1; have c0 := h.c0
  h.put (by rw [burnM_len]; exact h.len) (burnM_ok h.ok) (by omega) (by omega) hf.1 hf.2 (burnM_keep m)
theorem MemG.rowAt (h : MemG H oM oR n f kv m) {i : Nat} (hi : i < n) : RowAt H oR n i (m.rows.map RowM.cells) (row m.rows i) := by
  have hl : i < m.rows.length := by rw [h.len]; exact hi
  exact ⟨h.robj, by rw [List.length_map, h.len], by simp [row, List.getD, hl], row_ok h.ok hl⟩
end
def mayR (m : MemM) (at_ : Int) : Int := mayN m.off at_ (m.rows.length : Int)
def mayW (m : MemM) (at_ : Int) : Int := mayN m.off at_ ((m.rows.length : Int) * 8)
def atRow (at_ : Int) : Nat := (at_ / 8).toNat
def storeG (at_ v : Int) (rows : List RowM) : List RowM := rows.set (atRow at_) (rowStore (row rows (atRow at_)) (at_ % 8) v)
def flushG (r : Int) (rows : List RowM) : List RowM := rows.set r.toNat (rowFlush (row rows r.toNat))
def evictG (r : Int) (rows : List RowM) : List RowM := rows.set r.toNat (rowEvict (row rows r.toNat))
def storeM (m : MemM) (at_ v : Int) : MemM × Int := doneM m (mayW m at_) (storeG at_ v)
def flushM (m : MemM) (r : Int) : MemM × Int := doneM m (mayR m r) (flushG r)
def fenceM (m : MemM) : MemM × Int := doneM m (mayN m.off 0 1) fenceR
def evictM (m : MemM) (r : Int) : MemM × Int := if mayR m r = 0 then ({ m with rows := evictG r m.rows }, 0) else (m, mayR m r)
def loadM (m : MemM) (at_ : Int) : Int × Int := if mayW m at_ = 0 then (rowLoad (row m.rows (atRow at_)) (at_ % 8), 0) else (0, mayW m at_)
def swapM (m : MemM) (at_ old v : Int) : MemM × Bool × Int := if (loadM m at_).2 = 0 ∧ (loadM m at_).1 = old then ((storeM m at_ v).1, decide ((storeM m at_ v).2 = 0), (storeM m at_ v).2) else (m, false, (loadM m at_).2)
def fuseM (m : MemM) (calls : Int) (keep : List Int) : MemM := bif m.off then m else { m with fuse := if 0 > calls then 0 else calls, keep := keep }
def outM (rows : List RowM) : List Int := pick (fun i => (row rows i).out) rows.length
theorem mayN_zero {off : Bool} {a b : Int} : mayN off a b = 0 ↔ off = false ∧ 0 ≤ a ∧ a < b := by
  unfold mayN
  cases off with
  | true => simp
  | false =>
    by_cases h0 : a < 0
    · simp [h0]; try omega
    · by_cases h1 : b ≤ a
      · simp [h0, h1]; try omega
      · simp [h0, h1]; try omega
section
variable {H : Heap} {oM oR n : Nat} {f : Bool} {kv : AVal} {m m' : MemM}
theorem putRow_memH {i : Nat} {r : RowM} : putRow (memH H oM oR n f kv m) oR (m.rows.map RowM.cells) i r = memH H oM oR n f kv { m with rows := m.rows.set i r } := by
  unfold putRow memH rowsO memG
  rw [List.set_set, rows_set]
theorem putRow_self (h : MemG H oM oR n f kv m) {i : Nat} {r : RowM} : putRow H oR (m.rows.map RowM.cells) i r = memH H oM oR n f kv { m with rows := m.rows.set i r } := by
  rw [← putRow_memH, memH_self h]
theorem doneM_c (e : Int) (g : List RowM → List RowM) : m.c ≤ (doneM m e g).1.c ∧ (doneM m e g).1.c ≤ m.c + 1 := by
  unfold doneM; split
  · have := burnM_c m
    cases (burnM m).2 <;> exact this
  · simp only; omega
theorem doneM_keep (e : Int) (g : List RowM → List RowM) : (doneM m e g).1.keep = m.keep := by
  unfold doneM; split
  · have := burnM_keep m
    cases (burnM m).2 <;> exact this
  · rfl
theorem doneM_len {g : List RowM → List RowM} (hg : ∀ rows, (g rows).length = rows.length) (e : Int) : (doneM m e g).1.rows.length = m.rows.length := by
  unfold doneM; split
  · have := burnM_len m
    cases (burnM m).2
    · exact this
    · simp only [cond_true, hg]; exact this
  · rfl
theorem doneM_ok {g : List RowM → List RowM} (h : ∀ r ∈ m.rows, r.ok) (e : Int) (hg : ∀ rows, rows.length = m.rows.length → e = 0 → (∀ r ∈ rows, r.ok) → ∀ r ∈ g rows, r.ok) : ∀ r ∈ (doneM m e g).1.rows, r.ok := by
  unfold doneM; split
  · rename_i h0
    have := burnM_ok h
    cases (burnM m).2
    · exact this
    · exact hg _ (burnM_len m) h0 this
  · exact h
theorem doneM_fuse (f0 : -9223372036854775808 ≤ m.fuse) (f1 : m.fuse ≤ 9223372036854775807) (e : Int) (g : List RowM → List RowM) : -9223372036854775808 ≤ (doneM m e g).1.fuse ∧ (doneM m e g).1.fuse ≤ 9223372036854775807 := by
  unfold doneM; split
  · have := burnM_fuse f0 f1
    cases (burnM m).2 <;> exact this
  · exact ⟨f0, f1⟩
theorem storeG_len (at_ v : Int) (rows : List RowM) : (storeG at_ v rows).length = rows.length := by simp [storeG]
theorem flushG_len (r : Int) (rows : List RowM) : (flushG r rows).length = rows.length := by simp [flushG]
theorem evictG_len (r : Int) (rows : List RowM) : (evictG r rows).length = rows.length := by simp [evictG]
theorem fenceR_len (rows : List RowM) : (fenceR rows).length = rows.length := turnedR_len
theorem set_ok {rows : List RowM} {i : Nat} {r : RowM} (h : ∀ r ∈ rows, r.ok) (hr : r.ok) : ∀ x ∈ rows.set i r, x.ok := by
  intro x hx
  rcases List.mem_or_eq_of_mem_set hx with hx | rfl
  · exact h x hx
  · exact hr
theorem MemG.done (h : MemG H oM oR n f kv m) (hc : m.c + 1 ≤ 1000000) {e : Int} {g : List RowM → List RowM} (hl : ∀ rows, (g rows).length = rows.length) (hg : ∀ rows, rows.length = m.rows.length → e = 0 → (∀ r ∈ rows, r.ok) → ∀ r ∈ g rows, r.ok) :
    MemG (memH H oM oR n f kv (doneM m e g).1) oM oR n f kv (doneM m e g).1 :=
  have := doneM_c (m := m) e g; have c0 := h.c0; have hf := doneM_fuse h.f0 h.f1 e g
  h.put (by rw [doneM_len hl]; exact h.len) (doneM_ok h.ok e hg) (by omega) (by omega) hf.1 hf.2 (doneM_keep e g)
theorem MemG.store (h : MemG H oM oR n f kv m) (hc : m.c + 1 ≤ 1000000) (at_ v : Int) : MemG (memH H oM oR n f kv (storeM m at_ v).1) oM oR n f kv (storeM m at_ v).1 :=
  h.done hc (storeG_len at_ v) fun rows hl he hr => by
    have := (mayN_zero.1 he).2
    exact set_ok hr (store_ok (row_ok hr (by unfold atRow; omega)) _ _)
theorem MemG.flush (h : MemG H oM oR n f kv m) (hc : m.c + 1 ≤ 1000000) (r : Int) : MemG (memH H oM oR n f kv (flushM m r).1) oM oR n f kv (flushM m r).1 :=
  h.done hc (flushG_len r) fun rows hl he hr => by
    have := (mayN_zero.1 he).2
    exact set_ok hr (flush_ok (row_ok hr (by omega)))
theorem MemG.fence (h : MemG H oM oR n f kv m) (hc : m.c + 1 ≤ 1000000) : MemG (memH H oM oR n f kv (fenceM m).1) oM oR n f kv (fenceM m).1 :=
  h.done hc fenceR_len fun _ _ he hr => turnedR_ok (fun i r h => fence_ok h) hr _
theorem MemG.evict (h : MemG H oM oR n f kv m) (r : Int) : MemG (memH H oM oR n f kv (evictM m r).1) oM oR n f kv (evictM m r).1 := by
  unfold evictM
  split
  · rename_i he
    have := (mayN_zero.1 he).2
    exact h.put (by simp only [evictG_len]; exact h.len) (set_ok h.ok (evict_ok (row_ok h.ok (by omega)))) h.c0 h.c1 h.f0 h.f1 rfl
  · rw [memH_self h]; exact h
theorem MemG.swap (h : MemG H oM oR n f kv m) (hc : m.c + 1 ≤ 1000000) (at_ old v : Int) : MemG (memH H oM oR n f kv (swapM m at_ old v).1) oM oR n f kv (swapM m at_ old v).1 := by
  unfold swapM
  split
  · exact h.store hc at_ v
  · rw [memH_self h]; exact h
theorem crashM_fuse (f0 : -9223372036854775808 ≤ m.fuse) (f1 : m.fuse ≤ 9223372036854775807) (l : List Int) : -9223372036854775808 ≤ (crashM m l).fuse ∧ (crashM m l).fuse ≤ 9223372036854775807 := by
  unfold crashM; cases m.off
  · simp
  · exact ⟨f0, f1⟩
theorem MemG.crash (h : MemG H oM oR n f kv m) (l : List Int) : MemG (memH H oM oR n f kv (crashM m l)) oM oR n f kv (crashM m l) :=
  have hf := crashM_fuse h.f0 h.f1 l
  h.put (by rw [crashM_len]; exact h.len) (crashM_ok h.ok l) (by rw [crashM_c]; exact h.c0) (by rw [crashM_c]; exact h.c1) hf.1 hf.2 (crashM_keep m l)
theorem MemG.cell (h : MemG H oM oR n f kv m) : H[oM]? = some (.arr 5 [[.slice oR n 0 n f, .bool m.off, .int .i64 m.c, .int .i64 m.fuse, kv]] false) := h.mem
theorem MemG.cells (h : MemG H oM oR n f kv m) : H[oR]? = some (.arr 18 (m.rows.map RowM.cells) false) := h.robj
theorem MemG.mlen (h : MemG H oM oR n f kv m) : (m.rows.map RowM.cells).length = n := by rw [List.length_map, h.len]
theorem MemG.w8 (h : MemG H oM oR n f kv m) : IntKind.wrap .i64 ((n : Int) * 8) = (n : Int) * 8 := by have := h.le; exact w64' (by omega) (by omega)
theorem MemG.place (h : MemG H oM oR n f kv m) {at_ : Int} (he : mayW m at_ = 0) : IntKind.wrap .i64 (at_.tdiv 8) = ((atRow at_ : Nat) : Int) ∧ at_.tmod 8 = at_ % 8 ∧ atRow at_ < n := by
  have h1 := (mayN_zero.1 he).2
  have hle := h.le
  have hn := h.len
  rw [hn] at h1
  refine ⟨?_, Int.tmod_eq_emod_of_nonneg (by omega), by unfold atRow; omega⟩
  rw [Int.tdiv_eq_ediv_of_nonneg (by omega)]
  unfold atRow
  rw [Int.toNat_of_nonneg (by omega)]
  exact w64' (by omega) (by omega)
end
end Go.Ax.M
