/- Regions that draw, walked: what has been yielded is kept as what it says of a heap. Conditions: none. -/
import Derived.Test.YtcdihghokoinhaaAxTac
namespace Go.Ax
open Go
set_option linter.unusedVariables false

/-- The operations in the order of our walk. -/
def ordOps (ops : List AOper) : List Nat → List (Nat × AOper)
  | [] => []
  | i :: r => match ops[i]? with
    | some o => (i, o) :: ordOps ops r
    | none => []

def chkS (pre : Nat → Bool) (H : Heap) : List (Nat × (Heap → Prop)) → Prop
  | [] => True
  | (i, p) :: r => (p H ∨ pre i = true) ∧ chkS pre H r

/-- What an operation says of a heap, where it yields a value. -/
def same (T : List AVal) (op : AOp) (v : AVal) (H : Heap) : Prop := aStep T H op = some (v, H)

def xDrawnS (P : Program) (pre : Nat → Nat → Bool) : List (Nat × AOper) → List (Nat × (Heap → Prop)) → (St → Prop) → St → Prop
  | [], _, K, s => K s
  | (i, o) :: rest, log, K, s => match o.guard with
      | none => if o.op.quiet then (∃ v H, aStep s.T s.H o.op = some (v, H) ∧ xDrawnS P pre rest ((i, same s.T o.op v) :: log) K ⟨setDst s.T o.dst v, s.H⟩)
        else xOne P o (fun s' => chkS (pre i) s'.H log ∧ xDrawnS P pre rest log K s') s
      | some (d, b) => match aget s.T (.t d) with
        | .bool g => (g = b → if o.op.quiet then (∃ v H, aStep s.T s.H o.op = some (v, H) ∧ xDrawnS P pre rest ((i, same s.T o.op v) :: log) K ⟨setDst s.T o.dst v, s.H⟩)
          else xOne P o (fun s' => chkS (pre i) s'.H log ∧ xDrawnS P pre rest log K s') s) ∧
          (g ≠ b → xDrawnS P pre rest log K ⟨setDst s.T o.dst .top, s.H⟩)
        | _ => False

/-- Each entry of one log says what the other one's says. -/
def LogOk : List Log → List (Nat × (Heap → Prop)) → Prop
  | [], _ => True
  | l :: r, log => (∃ p, (l.idx, p) ∈ log ∧ ∀ H, p H → aStep l.T H l.op = some (l.v, H)) ∧ LogOk r log

theorem LogOk.cons {l : List Log} {log : List (Nat × (Heap → Prop))} (e : Nat × (Heap → Prop)) : LogOk l log → LogOk l (e :: log) := by
  induction l with
  | nil => intro _; trivial
  | cons a l ih => rintro ⟨⟨p, h1, h2⟩, h3⟩; exact ⟨⟨p, List.mem_cons_of_mem _ h1, h2⟩, ih h3⟩

theorem chkS_mem {pre : Nat → Bool} {H : Heap} : ∀ {log : List (Nat × (Heap → Prop))}, chkS pre H log → ∀ i p, (i, p) ∈ log → p H ∨ pre i = true
  | [], _, _, _, h => by cases h
  | (j, q) :: r, hc, i, p, h => by
    rcases List.mem_cons.1 h with h | h
    · injection h with h1 h2; subst h1; subst h2; exact hc.1
    · exact chkS_mem hc.2 i p h

theorem chk_of {pre : Nat → Bool} {H : Heap} {log : List (Nat × (Heap → Prop))} (hc : chkS pre H log) : ∀ {l : List Log}, LogOk l log → chk pre H l
  | [], _ => trivial
  | a :: l, ⟨⟨p, h1, h2⟩, h3⟩ => ⟨(chkS_mem hc _ _ h1).symm.imp id (h2 H), chk_of hc h3⟩

theorem xOne_mono {P : Program} {o : AOper} {K K' : St → Prop} {s : St} (hk : ∀ s, K s → K' s) (h : xOne P o K s) : xOne P o K' s := by
  unfold xOne at h ⊢
  split at h
  · exact h.mono fun v H' => hk _
  · split at h
    · rename_i hs; exact hk _ h
    · exact h.elim

theorem xDrawn_of {P : Program} {ops : List AOper} {pre : Nat → Nat → Bool} {K : St → Prop} : ∀ {ord : List Nat} {l : List Log} {log : List (Nat × (Heap → Prop))} {s : St}, (ordOps ops ord).length = ord.length → LogOk l log → xDrawnS P pre (ordOps ops ord) log K s → xDrawn P ops pre ord l K s
  | [], _, _, _, _, _, h => h
  | i :: ord, l, log, s, hl, hlog, h => by
    simp only [ordOps] at h hl
    simp only [xDrawn]
    split at hl
    case h_2 => simp at hl
    rename_i o ho
    simp only [ho] at h ⊢
    have hl' : (ordOps ops ord).length = ord.length := by simpa using hl
    simp only [xDrawnS] at h
    have run : (if o.op.quiet then (∃ v H, aStep s.T s.H o.op = some (v, H) ∧ xDrawnS P pre (ordOps ops ord) ((i, same s.T o.op v) :: log) K ⟨setDst s.T o.dst v, s.H⟩)
        else xOne P o (fun s' => chkS (pre i) s'.H log ∧ xDrawnS P pre (ordOps ops ord) log K s') s) →
        (if o.op.quiet then (match aStep s.T s.H o.op with
          | some (v, _) => xDrawn P ops pre ord (⟨i, o.op, s.T, v⟩ :: l) K ⟨setDst s.T o.dst v, s.H⟩
          | none => False)
        else xOne P o (fun s' => chk (pre i) s'.H l ∧ xDrawn P ops pre ord l K s') s) := by
      intro h
      split at h
      · rename_i hq
        rw [if_pos hq]
        obtain ⟨v, H', hs, h⟩ := h
        rw [hs]
        exact xDrawn_of hl' ⟨⟨_, List.mem_cons_self, fun H h => h⟩, hlog.cons _⟩ h
      · rename_i hq
        rw [if_neg hq]
        exact xOne_mono (fun s' ⟨hc, hh⟩ => ⟨chk_of hc hlog, xDrawn_of hl' hlog hh⟩) h
    split at h
    · rename_i hg; simp only [hg]; exact run h
    · rename_i d b hg
      simp only [hg]
      split at h
      · rename_i g hgv
        simp only [hgv]
        exact ⟨fun e => run (h.1 e), fun e => xDrawn_of hl' hlog (h.2 e)⟩
      · exact h.elim

theorem wpx_drawnS {P : Program} {n0 : Nat} {ops : List AOper} {aft : List (List Nat)} {ord : List Nat} {Q : Exit → St → Prop} {s : St} (hl : (ordOps ops ord).length = ord.length) (h : xDrawnS P (preOf (befs aft [])) (ordOps ops ord) [] (Q .normal) s) : wpx P n0 (.drawn ops aft ord) Q s :=
  xDrawn_of hl trivial h

/-! ### Steps -/
section
variable {P : Program} {pre : Nat → Nat → Bool} {rest : List (Nat × AOper)} {log : List (Nat × (Heap → Prop))} {K : St → Prop} {T : List AVal} {H : Heap} {i : Nat} {dst : Option Nat} {op : AOp}

/-- On behind a quiet one. -/
def quietX (P : Program) (pre : Nat → Nat → Bool) (rest : List (Nat × AOper)) (log : List (Nat × (Heap → Prop))) (K : St → Prop) (i : Nat) (dst : Option Nat) (op : AOp) (T : List AVal) (H : Heap) (r : Option (AVal × Heap)) : Prop :=
  match r with
  | some (v, _) => xDrawnS P pre rest ((i, same T op v) :: log) K ⟨setDst T dst v, H⟩
  | none => False

/-- On behind one that may turn the heap. -/
def loudX (P : Program) (pre : Nat → Nat → Bool) (rest : List (Nat × AOper)) (log : List (Nat × (Heap → Prop))) (K : St → Prop) (i : Nat) (s : St) : Prop := chkS (pre i) s.H log ∧ xDrawnS P pre rest log K s

theorem loudX_go : loudX P pre rest log K i ⟨T, H⟩ = (chkS (pre i) H log ∧ xDrawnS P pre rest log K ⟨T, H⟩) := propext Iff.rfl
theorem quietX_some {v : AVal} {H' : Heap} : quietX P pre rest log K i dst op T H (some (v, H')) = xDrawnS P pre rest ((i, fun H => aStep T H op = some (v, H)) :: log) K ⟨setDst T dst v, H⟩ := propext Iff.rfl

theorem xDrawnS_nil : xDrawnS P pre [] log K ⟨T, H⟩ = K ⟨T, H⟩ := propext Iff.rfl

theorem quiet_go : quietX P pre rest log K i dst op T H (aStep T H op) ↔ ∃ v H', aStep T H op = some (v, H') ∧ xDrawnS P pre rest ((i, same T op v) :: log) K ⟨setDst T dst v, H⟩ := by
  unfold quietX
  constructor
  · intro h
    split at h
    · rename_i v H' hs; exact ⟨v, H', hs, h⟩
    · exact h.elim
  · rintro ⟨v, H', hs, h⟩
    rw [hs]; exact h

theorem xDrawnS_q (hq : op.quiet = true) : xDrawnS P pre ((i, ⟨dst, op, none⟩) :: rest) log K ⟨T, H⟩ = quietX P pre rest log K i dst op T H (aStep T H op) := by
  rw [eq_iff_iff, quiet_go]
  simp only [xDrawnS, hq, if_true]

theorem xDrawnS_l (hq : op.quiet = false) : xDrawnS P pre ((i, ⟨dst, op, none⟩) :: rest) log K ⟨T, H⟩ = xOne P ⟨dst, op, none⟩ (loudX P pre rest log K i) ⟨T, H⟩ := by
  simp only [xDrawnS, hq, Bool.false_eq_true, if_false]; rfl

theorem xDrawnS_on {d : Nat} {b : Bool} (h : T.getD d .top = .bool b) : xDrawnS P pre ((i, ⟨dst, op, some (d, b)⟩) :: rest) log K ⟨T, H⟩ = xDrawnS P pre ((i, ⟨dst, op, none⟩) :: rest) log K ⟨T, H⟩ := by
  simp only [xDrawnS, aget, h]
  simp
  rfl

theorem xDrawnS_off {d : Nat} {b : Bool} (h : T.getD d .top = .bool (!b)) : xDrawnS P pre ((i, ⟨dst, op, some (d, b)⟩) :: rest) log K ⟨T, H⟩ = xDrawnS P pre rest log K ⟨setDst T dst .top, H⟩ := by
  simp only [xDrawnS, aget, h]
  cases b <;> simp

theorem xDrawnS_tt {d : Nat} (h : T.getD d .top = .bool true) : xDrawnS P pre ((i, ⟨dst, op, some (d, true)⟩) :: rest) log K ⟨T, H⟩ = xDrawnS P pre ((i, ⟨dst, op, none⟩) :: rest) log K ⟨T, H⟩ := xDrawnS_on h
theorem xDrawnS_ff {d : Nat} (h : T.getD d .top = .bool false) : xDrawnS P pre ((i, ⟨dst, op, some (d, false)⟩) :: rest) log K ⟨T, H⟩ = xDrawnS P pre ((i, ⟨dst, op, none⟩) :: rest) log K ⟨T, H⟩ := xDrawnS_on h
theorem xDrawnS_tf {d : Nat} (h : T.getD d .top = .bool true) : xDrawnS P pre ((i, ⟨dst, op, some (d, false)⟩) :: rest) log K ⟨T, H⟩ = xDrawnS P pre rest log K ⟨setDst T dst .top, H⟩ := xDrawnS_off h
theorem xDrawnS_ft {d : Nat} (h : T.getD d .top = .bool false) : xDrawnS P pre ((i, ⟨dst, op, some (d, true)⟩) :: rest) log K ⟨T, H⟩ = xDrawnS P pre rest log K ⟨setDst T dst .top, H⟩ := xDrawnS_off h

theorem chkS_nil {pre : Nat → Bool} : chkS pre H [] = True := propext Iff.rfl
theorem chkS_cons {pre : Nat → Bool} {p : Heap → Prop} : chkS pre H ((i, p) :: log) = ((p H ∨ pre i = true) ∧ chkS pre H log) := propext Iff.rfl
end

end Go.Ax
