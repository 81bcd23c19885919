/- Texts put behind one another: MFind, MOps, MOps2, MLaw. Conditions: none. -/
import Derived.Test.YtlaipllgmddkiaaGreatMStateZ
set_option linter.all false
namespace Go.Ax.M
open Go Go.Ax
def pGood (p : List Int) : Bool := decide (1 ≤ (p.length : Int)) && (decide ((p.length : Int) ≤ 3) && p.all fun n => decide (0 ≤ n) && decide (n ≤ 15))
structure Call where
 op : Int
 a : List Int
 b : List Int
 x : Int
 y : Int
 w : Int
 deriving DecidableEq, Inhabited
def callW (op : Int) : List UInt8 :=
 if op = 1 then [109, 97, 107, 101] else if op = 2 then [99, 111, 112, 121] else if op = 3 then [109, 105, 110, 116] else if op = 4 then [109, 111, 118, 101] else if op = 5 then [100, 101, 108, 101, 116, 101]
 else if op = 6 then [114, 101, 118, 111, 107, 101] else if op = 7 then [115, 101, 110, 100] else if op = 8 then [114, 101, 99, 118] else if op = 9 then [114, 105, 110, 103] else if op = 10 then [112, 111, 108, 108]
 else if op = 11 then [119, 114, 105, 116, 101] else if op = 12 then [114, 101, 97, 100] else if op = 13 then [116, 101, 108, 108] else []
def callL (op : Int) : List UInt8 :=
 if op = 1 then [65, 66, 88, 89] else if op = 2 then [65, 66, 88] else if op = 3 then [65, 66, 88, 89] else if op = 4 then [65, 66] else if op = 5 then [65]
 else if op = 6 then [65] else if op = 7 then [65, 98, 87] else if op = 8 then [65, 98] else if op = 9 then [65] else if op = 10 then [65]
 else if op = 11 then [65, 88, 87] else if op = 12 then [65, 88] else if op = 13 then [65] else []
theorem op_cases (op : Int) : (op = 1 ∨ op = 2 ∨ op = 3 ∨ op = 4 ∨ op = 5 ∨ op = 6 ∨ op = 7 ∨ op = 8 ∨ op = 9 ∨ op = 10 ∨ op = 11 ∨ op = 12 ∨ op = 13) ∨ (op < 1 ∨ 13 < op) := by omega
theorem call_none {op : Int} (h : op < 1 ∨ 13 < op) : callW op = [] ∧ callL op = [] := by
 unfold callW callL
 repeat (first | rw [if_neg (by omega)])
 exact ⟨rfl, rfl⟩
def cNumbers (c : Call) : Bool :=
 bif decide (c.op = 1) then inB c.x 1 5 && inB c.y 0 4096
 else bif decide (c.op = 2) then rGood c.x && decide (c.y = 0)
 else bif decide (c.op = 3) then rGood c.x && inB c.y 1 65535
 else bif decide (c.op = 11) || decide (c.op = 12) then inB c.x 0 3 && decide (c.y = 0)
 else decide (c.x = 0) && decide (c.y = 0)
def callGood (c : Call) : Bool :=
 !decide (callL c.op = []) && (pGood c.a && (((decide ((c.b.length : Int) = 0) && !(callL c.op).contains 66) || (pGood c.b && ((callL c.op).contains 66 || (callL c.op).contains 98))) && (cNumbers c && (decide (c.w = 0) || (callL c.op).contains 87))))
def stepI (t : Thing) (n : Int) : Int := bif decide (p2 t.bits ≤ n) then -1 else t.base + n
def throughB (s : State) (i : Int) : Bool := decide ((s.slot i.toNat).cap.ty = 2) && rWithin 1 (s.slot i.toNat).cap.ri
def fWalk (s : State) : List Int → Int → Int × Int
 | [], i => (i, 0)
 | n :: r, i => bif throughB s i && !decide (stepI (s.thing (s.slot i.toNat).cap.th.toNat) n < 0) then fWalk s r (stepI (s.thing (s.slot i.toNat).cap.th.toNat) n) else (0, 3)
def fFirst (s : State) (th : Int) : List Int → Int × Int
 | [] => (0, 0)
 | n :: r => bif !decide (stepI (s.thing (2 + th).toNat) n < 0) then fWalk s r (stepI (s.thing (2 + th).toNat) n) else (0, 3)
def fSlot (s : State) (th : Int) (p : List Int) : Int × Int := bif sGood s && (inB th 0 (s.geo.threads - 1) && pGood p) then fFirst s th p else (0, 1)
def fCap (s : State) (th : Int) (p : List Int) : Int × Cap × Int :=
 bif !decide ((fSlot s th p).2 = 0) then (0, .zero, (fSlot s th p).2) else bif cNone (s.slot (fSlot s th p).1.toNat).cap then (0, .zero, 4) else ((fSlot s th p).1, (s.slot (fSlot s th p).1.toNat).cap, 0)
def fEmpty (s : State) (th : Int) (p : List Int) : Int × Int :=
 bif !decide ((fSlot s th p).2 = 0) then (0, (fSlot s th p).2) else bif !cNone (s.slot (fSlot s th p).1.toNat).cap then (0, 5) else ((fSlot s th p).1, 0)
theorem marks_fit {b : Int} {had h : List Bool} {i j : Nat} (e : marks b had i = some h) (hj : j < i) : b + j < had.length := by
 induction i generalizing h with
 | zero => omega
 | succ i ih =>
  rw [marks_succ] at e
  cases e1 : marks b had i with
  | none => rw [e1] at e; cases e
  | some h1 =>
   rw [e1] at e
   by_cases hji : j = i
   ·subst hji
    simp only [markStep] at e
    cases hc : (decide (b + j < h1.length) && !h1.getD (b + j).toNat false) with
    | false => rw [hc] at e; cases e
    | true => simp at hc; rw [← marks_len e1]; exact hc.1
   ·exact ih e1 (by omega)
theorem nodesHad_len {s : State} {k : Nat} {h : List Bool} (e : nodesHad s k = some h) : h.length = s.slots.length := by
 induction k generalizing h with
 | zero => simp [nodesHad] at e; rw [← e]; simp
 | succ k ih =>
  rw [nodesHad_succ] at e
  cases e1 : nodesHad s k with
  | none => rw [e1] at e; simp only [nodeStep] at e; rw [mark_none] at e; cases hd : decide ((s.thing k).ty = 2) <;> rw [hd] at e <;> cases e
  | some h1 =>
   rw [e1] at e
   simp only [nodeStep] at e
   cases hd : decide ((s.thing k).ty = 2) with
   | false => rw [hd] at e; simp at e; rw [← e]; exact ih e1
   | true => rw [hd] at e; simp only [cond_true] at e; exact (marks_len e).trans (ih e1)
theorem node_fits {s : State} (hn : sNodes s = true) {k : Nat} (hk : k < s.things.length) (h2 : (s.thing k).ty = 2) (hg : tGood (s.thing k) = true) : (s.thing k).base + p2 (s.thing k).bits ≤ s.slots.length := by
 have hb := (tGood_node hg h2).1
 have hp := p2_bits hb
 cases e : nodesHad s (k + 1) with
 | none =>
  have := nodesHad_none e (n := s.things.length) hk
  simp only [sNodes, this] at hn
  cases hn
 | some h =>
  rw [nodesHad_succ] at e
  cases e1 : nodesHad s k with
  | none => rw [e1] at e; simp only [nodeStep] at e; rw [mark_none] at e; cases hd : decide ((s.thing k).ty = 2) <;> rw [hd] at e <;> cases e
  | some h1 =>
   rw [e1] at e
   simp only [nodeStep, h2, decide_true, cond_true] at e
   have := marks_fit (b := (s.thing k).base) (had := h1) (i := (p2 (s.thing k).bits).toNat) (j := (p2 (s.thing k).bits).toNat - 1) e (by omega)
   rw [nodesHad_len e1] at this
   omega
theorem root_node {s : State} (h : StOk s) {th : Int} (h0 : 0 ≤ th) (h1 : th ≤ s.geo.threads - 1) : (2 + th).toNat < s.things.length ∧ (s.thing (2 + th).toNat).ty = 2 := by
 have hg := gGood_bb h.geo
 have hl := h.things
 have hk : (2 + th).toNat < s.things.length := by omega
 refine ⟨hk, ?_⟩
 have := List.all_eq_true.1 (show (List.range s.things.length).all (thingOk s) = true by have := h.thingsB; simpa [sThings] using this) _ (List.mem_range.2 hk)
 have hr : rootB s (2 + th).toNat = true := by simp [rootB]; omega
 simp only [thingOk, hr, cond_true, Bool.and_eq_true, tEq_iff] at this
 rw [this.2.2]; rfl
theorem cap_thing {s : State} (h : StOk s) {k : Nat} (hk : k < s.slots.length) (hn : cNone (s.slot k).cap = false) : sThere s (s.slot k).cap.th = true ∧ (s.thing (s.slot k).cap.th.toNat).ty = (s.slot k).cap.ty := by
 have := List.all_eq_true.1 (show s.slots.all (capOk s) = true by have := h.caps; simpa [sCaps] using this) _ (slot_mem hk)
 simp [capOk, hn] at this
 exact this.2.2
theorem cNone_ty {c : Cap} (h : c.ty ≠ 0) : cNone c = false := by simp [cNone, h]
theorem stepI_lt {s : State} (h : StOk s) {k : Nat} (hk : k < s.things.length) (h2 : (s.thing k).ty = 2) {n : Int} (hn : 0 ≤ n) : stepI (s.thing k) n < 0 ∨ (0 ≤ stepI (s.thing k) n ∧ stepI (s.thing k) n < s.slots.length) := by
 have hg := h.ok k hk
 have := node_fits h.nodes hk h2 hg
 have hb := tGood_node hg h2
 unfold stepI
 cases hd : decide (p2 (s.thing k).bits ≤ n) with
 | true => left; simp
 | false => right; simp at hd; simp; omega
theorem pGood_get {p : List Int} (h : pGood p = true) {k : Nat} (hk : k < p.length) : 0 ≤ p.getD k 0 ∧ p.getD k 0 ≤ 15 := by
 simp [pGood] at h
 have := h.2.2 (p[k]) (List.getElem_mem hk)
 simpa [List.getD, hk] using this
theorem pGood_len {p : List Int} (h : pGood p = true) : 1 ≤ p.length ∧ p.length ≤ 3 := by
 simp [pGood] at h; omega
theorem through_node {s : State} (h : StOk s) {i : Int} (h0 : 0 ≤ i) (h1 : i < s.slots.length) (hb : throughB s i = true) : (s.slot i.toNat).cap.th.toNat < s.things.length ∧ (s.thing (s.slot i.toNat).cap.th.toNat).ty = 2 := by
 simp [throughB] at hb
 obtain ⟨a, b⟩ := cap_thing h (k := i.toNat) (by omega) (cNone_ty (by omega))
 simp [sThere] at a
 exact ⟨by omega, by omega⟩
theorem node_fine {s : State} (h : StOk s) {k : Nat} (hk : k < s.things.length) (h2 : (s.thing k).ty = 2) : inB (s.thing k).bits 1 4 = true ∧ 0 ≤ (s.thing k).base ∧ (s.thing k).base ≤ 96 := by
 have hg := tGood_node (h.ok k hk) h2
 have := p2_bits hg.1
 exact ⟨hg.1, hg.2.1, by omega⟩
theorem fWalk_lt {s : State} (h : StOk s) : ∀ (p : List Int) (i : Int), (∀ n ∈ p, 0 ≤ n) → 0 ≤ i → i < s.slots.length → (fWalk s p i).2 = 0 → 0 ≤ (fWalk s p i).1 ∧ (fWalk s p i).1 < s.slots.length
 | [], i, _, h0, h1, _ => ⟨h0, h1⟩
 | n :: r, i, hp, h0, h1, he => by
  rw [fWalk] at he ⊢
  cases hc : (throughB s i && !decide (stepI (s.thing (s.slot i.toNat).cap.th.toNat) n < 0)) with
  | false => rw [hc] at he; simp at he
  | true =>
   rw [hc] at he
   simp only [cond_true] at he ⊢
   simp only [Bool.and_eq_true, Bool.not_eq_true', decide_eq_false_iff_not] at hc
   obtain ⟨q1, q2⟩ := through_node h h0 h1 hc.1
   have := (stepI_lt h q1 q2 (n := n) (hp n List.mem_cons_self)).resolve_left hc.2
   exact fWalk_lt h r _ (fun m hm => hp m (List.mem_cons_of_mem _ hm)) this.1 this.2 he
theorem fSlot_ok {s : State} {th : Int} {p : List Int} (he : (fSlot s th p).2 = 0) : StOk s ∧ inB th 0 (s.geo.threads - 1) = true ∧ pGood p = true ∧ 0 ≤ (fSlot s th p).1 ∧ (fSlot s th p).1 < s.slots.length := by
 unfold fSlot at he ⊢
 cases hc : (sGood s && (inB th 0 (s.geo.threads - 1) && pGood p)) with
 | false => rw [hc] at he; simp at he
 | true =>
  rw [hc] at he
  simp only [cond_true] at he ⊢
  simp only [Bool.and_eq_true] at hc
  obtain ⟨c1, c2, c3⟩ := hc
  have ok := stOk_of c1
  refine ⟨ok, c2, c3, ?_⟩
  have hpn : ∀ n ∈ p, 0 ≤ n := by
   intro n hn
   obtain ⟨k, hk, rfl⟩ := List.mem_iff_getElem.1 hn
   have := (pGood_get c3 hk).1
   simpa [List.getD, hk] using this
  cases p with
  | nil => simp [pGood] at c3
  | cons n r =>
   simp only [fFirst] at he ⊢
   rw [inB_iff] at c2
   obtain ⟨q1, q2⟩ := root_node ok c2.1 c2.2
   cases hd : decide (stepI (s.thing (2 + th).toNat) n < 0) with
   | true => rw [hd] at he; simp at he
   | false =>
    rw [hd] at he
    simp only [Bool.not_false, cond_true] at he ⊢
    simp only [decide_eq_false_iff_not] at hd
    have := (stepI_lt ok q1 q2 (n := n) (hpn n List.mem_cons_self)).resolve_left hd
    exact fWalk_lt ok r _ (fun m hm => hpn m (List.mem_cons_of_mem _ hm)) this.1 this.2 he
attribute [irreducible] pGood callW callL cNumbers callGood stepI throughB fSlot fCap fEmpty
end Go.Ax.M
namespace Go.Ax.M
open Go Go.Ax
theorem Gc.old {H L : Heap} {K : AVal → Heap → Prop} {v : AVal} (hv : v.refs fun o => o < H.length) (h : K v H) : Gc H K v (H ++ L) := by
 refine ⟨[], L, [], v, rfl, ⟨rfl, by simp, fun {i j} h => by simp at h⟩, VRen.refl ?_, by simpa using h⟩
 exact refs_mono (fun o ho => .inl ⟨rfl, ho⟩) hv
theorem Gc.stateT {H L : Heap} {K : AVal → Heap → Prop} {i j : Nat} {s : State} {f f' : Bool} {l : List AVal} (hi : L[i]? = some (slotsO s)) (hj : L[j]? = some (thingsO s)) (hij : i ≠ j) (hl : ∀ a ∈ l, a.plain = true)
 (h : K (.tup (stV s H.length (H.length + 1) f f' :: l)) (H ++ [slotsO s, thingsO s])) : Gc H K (.tup (stV s (H.length + i) (H.length + j) f f' :: l)) (H ++ L) := by
 refine ⟨[i, j], L, [slotsO s, thingsO s], _, rfl, Sel.two hi hj hij (.plain slots_plain) (.plain things_plain), ?_, h⟩
 refine ⟨_, rfl, _, _, rfl, ?_, VRens.refl (plainsL_refs hl)⟩
 exact ⟨_, rfl, _, _, rfl, rfl, _, _, rfl, rfl, _, _, rfl, rfl, _, _, rfl, ⟨H.length, rfl, .inr ⟨i, 0, rfl, rfl, rfl⟩⟩, _, _, rfl, ⟨H.length + 1, rfl, .inr ⟨j, 1, rfl, rfl, rfl⟩⟩, rfl⟩
theorem slots_set {l : List Slot} {k : Nat} {x : Slot} : (l.map Slot.cells).set k x.cells = (l.set k x).map Slot.cells := by rw [List.map_set]
theorem things_set {l : List Thing} {k : Nat} {x : Thing} : (l.map Thing.cells).set k x.cells = (l.set k x).map Thing.cells := by rw [List.map_set]
@[go_sem] theorem add11 {n : Nat} : n + 1 + 1 = n + 2 := rfl
@[go_sem] theorem add21 {n : Nat} : n + 2 + 1 = n + 3 := rfl
@[go_sem] theorem add31 {n : Nat} : n + 3 + 1 = n + 4 := rfl
@[go_sem] theorem add41 {n : Nat} : n + 4 + 1 = n + 5 := rfl
@[go_sem] theorem add51 {n : Nat} : n + 5 + 1 = n + 6 := rfl
@[go_sem] theorem add61 {n : Nat} : n + 6 + 1 = n + 7 := rfl
@[go_sem] theorem add71 {n : Nat} : n + 7 + 1 = n + 8 := rfl
section
variable {H L : Heap} {a0 a1 a2 a3 a4 a5 a6 a7 a8 a9 a10 a11 a12 a13 a14 a15 a16 x : AObj}
@[go_sem] theorem at6 : (H ++ a0 :: a1 :: a2 :: a3 :: a4 :: a5 :: a6 :: L)[H.length + 6]? = some a6 := by rw [List.getElem?_append_right (by omega)]; simp
@[go_sem] theorem set6 : (H ++ a0 :: a1 :: a2 :: a3 :: a4 :: a5 :: a6 :: L).set (H.length + 6) x = H ++ a0 :: a1 :: a2 :: a3 :: a4 :: a5 :: x :: L := by rw [List.set_append_right _ _ (by omega)]; simp
@[go_sem] theorem at7 : (H ++ a0 :: a1 :: a2 :: a3 :: a4 :: a5 :: a6 :: a7 :: L)[H.length + 7]? = some a7 := by rw [List.getElem?_append_right (by omega)]; simp
@[go_sem] theorem set7 : (H ++ a0 :: a1 :: a2 :: a3 :: a4 :: a5 :: a6 :: a7 :: L).set (H.length + 7) x = H ++ a0 :: a1 :: a2 :: a3 :: a4 :: a5 :: a6 :: x :: L := by rw [List.set_append_right _ _ (by omega)]; simp
@[go_sem] theorem at8 : (H ++ a0 :: a1 :: a2 :: a3 :: a4 :: a5 :: a6 :: a7 :: a8 :: L)[H.length + 8]? = some a8 := by rw [List.getElem?_append_right (by omega)]; simp
@[go_sem] theorem set8 : (H ++ a0 :: a1 :: a2 :: a3 :: a4 :: a5 :: a6 :: a7 :: a8 :: L).set (H.length + 8) x = H ++ a0 :: a1 :: a2 :: a3 :: a4 :: a5 :: a6 :: a7 :: x :: L := by rw [List.set_append_right _ _ (by omega)]; simp
@[go_sem] theorem at9 : (H ++ a0 :: a1 :: a2 :: a3 :: a4 :: a5 :: a6 :: a7 :: a8 :: a9 :: L)[H.length + 9]? = some a9 := by rw [List.getElem?_append_right (by omega)]; simp
@[go_sem] theorem set9 : (H ++ a0 :: a1 :: a2 :: a3 :: a4 :: a5 :: a6 :: a7 :: a8 :: a9 :: L).set (H.length + 9) x = H ++ a0 :: a1 :: a2 :: a3 :: a4 :: a5 :: a6 :: a7 :: a8 :: x :: L := by rw [List.set_append_right _ _ (by omega)]; simp
@[go_sem] theorem at10 : (H ++ a0 :: a1 :: a2 :: a3 :: a4 :: a5 :: a6 :: a7 :: a8 :: a9 :: a10 :: L)[H.length + 10]? = some a10 := by rw [List.getElem?_append_right (by omega)]; simp
@[go_sem] theorem set10 : (H ++ a0 :: a1 :: a2 :: a3 :: a4 :: a5 :: a6 :: a7 :: a8 :: a9 :: a10 :: L).set (H.length + 10) x = H ++ a0 :: a1 :: a2 :: a3 :: a4 :: a5 :: a6 :: a7 :: a8 :: a9 :: x :: L := by rw [List.set_append_right _ _ (by omega)]; simp
@[go_sem] theorem at11 : (H ++ a0 :: a1 :: a2 :: a3 :: a4 :: a5 :: a6 :: a7 :: a8 :: a9 :: a10 :: a11 :: L)[H.length + 11]? = some a11 := by rw [List.getElem?_append_right (by omega)]; simp
@[go_sem] theorem set11 : (H ++ a0 :: a1 :: a2 :: a3 :: a4 :: a5 :: a6 :: a7 :: a8 :: a9 :: a10 :: a11 :: L).set (H.length + 11) x = H ++ a0 :: a1 :: a2 :: a3 :: a4 :: a5 :: a6 :: a7 :: a8 :: a9 :: a10 :: x :: L := by rw [List.set_append_right _ _ (by omega)]; simp
@[go_sem] theorem at12 : (H ++ a0 :: a1 :: a2 :: a3 :: a4 :: a5 :: a6 :: a7 :: a8 :: a9 :: a10 :: a11 :: a12 :: L)[H.length + 12]? = some a12 := by rw [List.getElem?_append_right (by omega)]; simp
@[go_sem] theorem set12 : (H ++ a0 :: a1 :: a2 :: a3 :: a4 :: a5 :: a6 :: a7 :: a8 :: a9 :: a10 :: a11 :: a12 :: L).set (H.length + 12) x = H ++ a0 :: a1 :: a2 :: a3 :: a4 :: a5 :: a6 :: a7 :: a8 :: a9 :: a10 :: a11 :: x :: L := by rw [List.set_append_right _ _ (by omega)]; simp
@[go_sem] theorem at13 : (H ++ a0 :: a1 :: a2 :: a3 :: a4 :: a5 :: a6 :: a7 :: a8 :: a9 :: a10 :: a11 :: a12 :: a13 :: L)[H.length + 13]? = some a13 := by rw [List.getElem?_append_right (by omega)]; simp
@[go_sem] theorem set13 : (H ++ a0 :: a1 :: a2 :: a3 :: a4 :: a5 :: a6 :: a7 :: a8 :: a9 :: a10 :: a11 :: a12 :: a13 :: L).set (H.length + 13) x = H ++ a0 :: a1 :: a2 :: a3 :: a4 :: a5 :: a6 :: a7 :: a8 :: a9 :: a10 :: a11 :: a12 :: x :: L := by rw [List.set_append_right _ _ (by omega)]; simp
@[go_sem] theorem at14 : (H ++ a0 :: a1 :: a2 :: a3 :: a4 :: a5 :: a6 :: a7 :: a8 :: a9 :: a10 :: a11 :: a12 :: a13 :: a14 :: L)[H.length + 14]? = some a14 := by rw [List.getElem?_append_right (by omega)]; simp
@[go_sem] theorem set14 : (H ++ a0 :: a1 :: a2 :: a3 :: a4 :: a5 :: a6 :: a7 :: a8 :: a9 :: a10 :: a11 :: a12 :: a13 :: a14 :: L).set (H.length + 14) x = H ++ a0 :: a1 :: a2 :: a3 :: a4 :: a5 :: a6 :: a7 :: a8 :: a9 :: a10 :: a11 :: a12 :: a13 :: x :: L := by rw [List.set_append_right _ _ (by omega)]; simp
@[go_sem] theorem at15 : (H ++ a0 :: a1 :: a2 :: a3 :: a4 :: a5 :: a6 :: a7 :: a8 :: a9 :: a10 :: a11 :: a12 :: a13 :: a14 :: a15 :: L)[H.length + 15]? = some a15 := by rw [List.getElem?_append_right (by omega)]; simp
@[go_sem] theorem set15 : (H ++ a0 :: a1 :: a2 :: a3 :: a4 :: a5 :: a6 :: a7 :: a8 :: a9 :: a10 :: a11 :: a12 :: a13 :: a14 :: a15 :: L).set (H.length + 15) x = H ++ a0 :: a1 :: a2 :: a3 :: a4 :: a5 :: a6 :: a7 :: a8 :: a9 :: a10 :: a11 :: a12 :: a13 :: a14 :: x :: L := by rw [List.set_append_right _ _ (by omega)]; simp
@[go_sem] theorem at16 : (H ++ a0 :: a1 :: a2 :: a3 :: a4 :: a5 :: a6 :: a7 :: a8 :: a9 :: a10 :: a11 :: a12 :: a13 :: a14 :: a15 :: a16 :: L)[H.length + 16]? = some a16 := by rw [List.getElem?_append_right (by omega)]; simp
@[go_sem] theorem set16 : (H ++ a0 :: a1 :: a2 :: a3 :: a4 :: a5 :: a6 :: a7 :: a8 :: a9 :: a10 :: a11 :: a12 :: a13 :: a14 :: a15 :: a16 :: L).set (H.length + 16) x = H ++ a0 :: a1 :: a2 :: a3 :: a4 :: a5 :: a6 :: a7 :: a8 :: a9 :: a10 :: a11 :: a12 :: a13 :: a14 :: a15 :: x :: L := by rw [List.set_append_right _ _ (by omega)]; simp
end
theorem get_lt {H : Heap} {o : Nat} {x : AObj} (h : H[o]? = some x) : o < H.length := (List.getElem?_eq_some_iff.1 h).1
def ringM (s : State) (c : Cap) (to : Int) : Bool := decide (c.ty = 2) && sInsideX s c.th to
def putE (s : State) (fr to : Int) (c : Cap) : Int :=
 bif !sGood s then 1
 else bif decide (fr < 0) || (decide ((s.slots.length : Int) ≤ fr) || (decide (to < 0) || (decide ((s.slots.length : Int) ≤ to) || (!cGood c || cNone c)))) then 1
 else bif decide (sOwnerX s to < 0) then 1
 else bif cNone (s.slot fr.toNat).cap then 4
 else bif !cNone (s.slot to.toNat).cap then 5
 else bif decide ((s.slot fr.toNat).cap.ty = 1) then 7
 else bif !cLess c (s.slot fr.toNat).cap then 1
 else bif ringM s c to then 1
 else 0
def putS (s : State) (fr to : Int) (c : Cap) : State := { s with slots := s.slots.set to.toNat ⟨c, fr⟩ }
structure Res where
 err : Int
 w : Int
 n : Int
 st : Option State
def Res.bad (e : Int) : Res := ⟨e, 0, 0, none⟩
def Res.reply (r : Res) : AVal := .agg [.int .i64 r.err, .int .u64 r.w, .int .i64 r.n]
theorem fCap_lt {s : State} {th : Int} {p : List Int} (h : (fCap s th p).2.2 = 0) : 0 ≤ (fCap s th p).1 ∧ (fCap s th p).1 < s.slots.length ∧ StOk s ∧ (fCap s th p).2.1 = (s.slot (fCap s th p).1.toNat).cap ∧ cNone (fCap s th p).2.1 = false := by
 unfold fCap at h ⊢
 cases h1 : decide ((fSlot s th p).2 = 0) with
 | false => rw [h1] at h; simp at h h1; exact absurd h h1
 | true =>
  rw [h1] at h
  simp only [Bool.not_true, cond_false] at h ⊢
  cases h2 : cNone (s.slot (fSlot s th p).1.toNat).cap with
  | true => rw [h2] at h; simp at h
  | false =>
   simp only [cond_false]
   have := fSlot_ok (of_decide_eq_true h1)
   exact ⟨this.2.2.2.1, this.2.2.2.2, this.1, trivial, h2⟩
def mailT (fr ba w : Int) : Thing := ⟨3, 0, 0, 0, 0, fr, ba, true, w, 0, 0, 0, 0⟩
def boxed (s : State) (th : Int) (t : Thing) : State := { s with things := s.things.set th.toNat t }
def sendIn (s : State) (c : Call) (box : Cap) (fr : Int) : Res :=
 bif (s.thing box.th.toNat).full then .bad 13 else ⟨0, 0, 0, some (boxed s box.th (mailT fr box.ba c.w))⟩
def sendM (s : State) (th : Int) (c : Call) (box : Cap) : Res :=
 bif decide (0 < (c.b.length : Int)) then
  bif !rWithin 4 box.ri then .bad 6
  else bif !decide ((fCap s th c.b).2.2 = 0) then .bad (fCap s th c.b).2.2
  else bif decide ((fCap s th c.b).2.1.ty = 1) then .bad 7
  else sendIn s c box ((fCap s th c.b).1 + 1)
 else sendIn s c box 0
theorem from_ok {s : State} (h : StOk s) {k : Nat} (hk : k < s.things.length) (h0 : 0 < (s.thing k).from_) : (s.thing k).from_ ≤ s.slots.length ∧ cNone (s.slot ((s.thing k).from_ - 1).toNat).cap = false := by
 have := List.all_eq_true.1 (show (List.range s.things.length).all (thingOk s) = true by have := h.thingsB; simpa [sThings] using this) _ (List.mem_range.2 hk)
 simp only [thingOk, Bool.and_eq_true, fromOk, Bool.or_eq_true, Bool.not_eq_true', decide_eq_false_iff_not] at this
 rcases this.2.1 with h1 | ⟨h1, h2⟩
 ·exact absurd h0 h1
 ·exact ⟨by omega, h2⟩
theorem fCap_there {s : State} {th : Int} {p : List Int} (h : (fCap s th p).2.2 = 0) : sThere s (fCap s th p).2.1.th = true := by
 obtain ⟨h0, h1, ok, e, hn⟩ := fCap_lt h
 rw [e] at hn ⊢
 exact (cap_thing ok (by omega) hn).1
def mail0 : Thing := ⟨3, 0, 0, 0, 0, 0, 0, false, 0, 0, 0, 0, 0⟩
def recvIn (s s' : State) (box : Cap) : Res := ⟨0, (s.thing box.th.toNat).word, (s.thing box.th.toNat).badge, some (boxed s' box.th mail0)⟩
def recvM (s : State) (th : Int) (c : Call) (box : Cap) : Res :=
 let t := s.thing box.th.toNat
 bif !t.full then .bad 14
 else bif decide (0 < (c.b.length : Int)) && decide (0 < t.from_) then
  bif !decide ((fEmpty s th c.b).2 = 0) then .bad (fEmpty s th c.b).2
  else bif !decide (putE s (t.from_ - 1) (fEmpty s th c.b).1 (s.slot (t.from_ - 1).toNat).cap = 0) then .bad (putE s (t.from_ - 1) (fEmpty s th c.b).1 (s.slot (t.from_ - 1).toNat).cap)
  else recvIn s (putS s (t.from_ - 1) (fEmpty s th c.b).1 (s.slot (t.from_ - 1).toNat).cap) box
 else recvIn s s box
def mailM (s : State) (th : Int) (c : Call) : Res :=
 bif !callGood c || (!decide (c.op = 7) && !decide (c.op = 8)) then .bad 1
 else bif !decide ((fCap s th c.a).2.2 = 0) then .bad (fCap s th c.a).2.2
 else bif !decide ((fCap s th c.a).2.1.ty = 3) then .bad 7
 else bif !rWithin (bif decide (c.op = 8) then 1 else 2) (fCap s th c.a).2.1.ri then .bad 6
 else bif decide (c.op = 7) then sendM s th c (fCap s th c.a).2.1
 else recvM s th c (fCap s th c.a).2.1
attribute [irreducible] ringM putE sendIn sendM recvM mailM
end Go.Ax.M
namespace Go.Ax.M
open Go Go.Ax
def fMay (up : List Int) (i : Int) : Bool := fGood up && fIs up i
def fOf (up : List Int) (i : Int) : List Int := pick (fun k => decide (up.getD k 0 = i)) up.length
def fKids (up : List Int) (i : Int) : List Int := bif fMay up i then fOf up i else []
def fMove (up : List Int) (fr to : Int) : List Int :=
 (((fOf up fr).foldl (fun l k => l.set k.toNat to) up).set to.toNat (((fOf up fr).foldl (fun l k => l.set k.toNat to) up).getD fr.toNat 0)).set fr.toNat (-2)
def fMoveB (up : List Int) (fr to : Int) : Bool := fMay up fr && (decide (0 ≤ to) && (decide (to < up.length) && !fIs up to))
def mvSlot (s : State) (fr to : Int) (k : Nat) : Slot :=
 ⟨if (k : Int) = fr then .zero else if (k : Int) = to then (s.slot fr.toNat).cap else (s.slot k).cap, max ((fMove (sForest s) fr to).getD k 0) (-1)⟩
def mvThing (fr to : Int) (t : Thing) : Thing := bif decide (t.from_ = fr + 1) then { t with from_ := to + 1 } else t
def movedS (s : State) (fr to : Int) : State := { s with slots := (List.range s.slots.length).map (mvSlot s fr to), things := s.things.map (mvThing fr to) }
def giveIn (s : State) (c : Call) (fr : Int) (x : Cap) (to : Int) : Res :=
 bif !decide (c.op = 4) then (bif decide (putE s fr to x = 0) then ⟨0, 0, 0, some (putS s fr to x)⟩ else .bad (putE s fr to x))
 else bif ringM s x to then .bad 1 else ⟨0, 0, 0, some (movedS s fr to)⟩
def giveX (c : Call) (x : Cap) : Cap := bif !decide (c.op = 4) then cCut x c.x else x
def giveM (s : State) (th : Int) (c : Call) : Res :=
 bif !callGood c || (!decide (c.op = 2) && (!decide (c.op = 3) && !decide (c.op = 4))) then .bad 1
 else bif !decide ((fCap s th c.a).2.2 = 0) then .bad (fCap s th c.a).2.2
 else bif decide (c.op = 3) && !decide ((cStamp (giveX c (fCap s th c.a).2.1) c.y).2 = 0) then .bad (cStamp (giveX c (fCap s th c.a).2.1) c.y).2
 else bif !decide ((fEmpty s th c.b).2 = 0) then .bad (fEmpty s th c.b).2
 else giveIn s c (fCap s th c.a).1 (bif decide (c.op = 3) then (cStamp (giveX c (fCap s th c.a).2.1) c.y).1 else giveX c (fCap s th c.a).2.1) (fEmpty s th c.b).1
def usedX (s : State) (i : Int) : Int :=
 bif !sGood s || (decide (i < 0) || (decide ((s.slots.length : Int) ≤ i) || !decide ((s.slot i.toNat).cap.ty = 1))) then 0
 else bif decide (((fKids (sForest s) i).length : Int) = 0) then 0 else (s.thing (s.slot i.toNat).cap.th.toNat).used
def carveN (c : Call) (s : State) : Int × Bool := bif decide (c.x = 2) then sGap s c.y else (0, true)
def carveS (s : State) (c : Call) (fr to used n base : Int) (room : Cap) : State :=
 { s with slots := s.slots.set to.toNat ⟨⟨c.x, n, 7, 0⟩, fr⟩,
          things := (s.things.set n.toNat (tNew c.x c.y base).1).set room.th.toNat { ((s.things.set n.toNat (tNew c.x c.y base).1).getD room.th.toNat .zero) with used := used } }
def carveIn (s : State) (c : Call) (fr to : Int) (room : Cap) : Res :=
 bif decide ((s.thing room.th.toNat).size < usedX s fr + (tCost c.x c.y).1) || (!(carveN c s).2 || decide (sFree s < 0)) then .bad 8
 else ⟨0, 0, sFree s, some (carveS s c fr to (usedX s fr + (tCost c.x c.y).1) (sFree s) (carveN c s).1 room)⟩
def carveM (s : State) (th : Int) (c : Call) : Res :=
 bif !callGood c || !decide (c.op = 1) then .bad 1
 else bif !decide ((fCap s th c.a).2.2 = 0) then .bad (fCap s th c.a).2.2
 else bif !decide ((fCap s th c.a).2.1.ty = 1) then .bad 7
 else bif !rWithin 2 (fCap s th c.a).2.1.ri then .bad 6
 else bif !decide ((fEmpty s th c.b).2 = 0) then .bad (fEmpty s th c.b).2
 else bif !(tCost c.x c.y).2 then .bad 1
 else carveIn s c (fCap s th c.a).1 (fEmpty s th c.b).1 (fCap s th c.a).2.1
def orU (a b : Int) : Int := IntKind.wrap .u64 ((BitVec.ofInt (IntKind.bits .u64) a ||| BitVec.ofInt (IntKind.bits .u64) b).toNat)
def bellM (s : State) (th : Int) (c : Call) : Res :=
 bif !callGood c || (!decide (c.op = 9) && !decide (c.op = 10)) then .bad 1
 else bif !decide ((fCap s th c.a).2.2 = 0) then .bad (fCap s th c.a).2.2
 else bif !decide ((fCap s th c.a).2.1.ty = 4) then .bad 7
 else bif !rWithin (bif decide (c.op = 10) then 1 else 2) (fCap s th c.a).2.1.ri then .bad 6
 else bif decide (c.op = 10) && decide ((s.thing (fCap s th c.a).2.1.th.toNat).word = 0) then .bad 14
 else bif decide (c.op = 10) then ⟨0, (s.thing (fCap s th c.a).2.1.th.toNat).word, 0, some (boxed s (fCap s th c.a).2.1.th { s.thing (fCap s th c.a).2.1.th.toNat with word := 0 })⟩
 else ⟨0, 0, 0, some (boxed s (fCap s th c.a).2.1.th { s.thing (fCap s th c.a).2.1.th.toNat with word := orU (s.thing (fCap s th c.a).2.1.th.toNat).word (p2 ((fCap s th c.a).2.1.ba.tmod 64)) })⟩
def fDepth (up : List Int) (i : Int) : Int := bif fMay up i then (stepsD up (up.length + 1) (up.getD i.toNat 0) : Nat) else -1
where
 /-- How many steps to a root. -/
 stepsD (up : List Int) : Nat → Int → Nat
  | 0, _ => 0
  | n + 1, i => if i = -1 then 0 else stepsD up n (up.getD i.toNat 0) + 1
def cWord (c : Cap) : Int := bif cGood c then c.ty + c.ri * 256 + c.ba * 65536 + c.th * 4294967296 else 0
def tData (t : Thing) (i : Int) : Int := bif decide (i = 0) then t.d0 else bif decide (i = 1) then t.d1 else bif decide (i = 2) then t.d2 else t.d3
def tSet (t : Thing) (i v : Int) : Thing := bif decide (i = 0) then { t with d0 := v } else bif decide (i = 1) then { t with d1 := v } else bif decide (i = 2) then { t with d2 := v } else { t with d3 := v }
def leafM (s : State) (th : Int) (c : Call) : Res :=
 bif !callGood c || (!decide (c.op = 11) && (!decide (c.op = 12) && !decide (c.op = 13))) then .bad 1
 else bif !decide ((fCap s th c.a).2.2 = 0) then .bad (fCap s th c.a).2.2
 else bif decide (c.op = 13) then ⟨0, cWord (fCap s th c.a).2.1, fDepth (sForest s) (fCap s th c.a).1, none⟩
 else bif !decide ((fCap s th c.a).2.1.ty = 5) then .bad 7
 else bif !rWithin (bif decide (c.op = 12) then 1 else 2) (fCap s th c.a).2.1.ri then .bad 6
 else bif decide (c.op = 12) then ⟨0, tData (s.thing (fCap s th c.a).2.1.th.toNat) c.x, 0, none⟩
 else ⟨0, 0, 0, some (boxed s (fCap s th c.a).2.1.th (tSet (s.thing (fCap s th c.a).2.1.th.toNat) c.x c.w))⟩
attribute [irreducible] fMay fOf fKids fMove fMoveB mvSlot mvThing giveIn giveX giveM usedX carveN carveIn carveM orU bellM fDepth cWord tData tSet leafM
end Go.Ax.M
namespace Go.Ax.M
open Go Go.Ax
def slot0 : Slot := ⟨.zero, -1⟩
def S0 : State := ⟨⟨2, 32, 16⟩, [⟨⟨1, 0, 7, 0⟩, -1⟩, ⟨⟨3, 1, 7, 0⟩, -1⟩, slot0, slot0, slot0, slot0, slot0, slot0, slot0, ⟨⟨3, 1, 7, 0⟩, 1⟩] ++ List.replicate 22 slot0,
 [⟨1, 0, 0, 64, 0, 0, 0, false, 0, 0, 0, 0, 0⟩, ⟨3, 0, 0, 0, 0, 0, 0, false, 0, 0, 0, 0, 0⟩, ⟨2, 3, 0, 0, 0, 0, 0, false, 0, 0, 0, 0, 0⟩, ⟨2, 3, 8, 0, 0, 0, 0, false, 0, 0, 0, 0, 0⟩] ++ List.replicate 12 .zero⟩
@[go_sem low] theorem atN {H L : Heap} {n : Nat} : (H ++ L)[H.length + n]? = L[n]? := by rw [List.getElem?_append_right (by omega)]; simp
@[go_sem low] theorem setN {H L : Heap} {n : Nat} {x : AObj} : (H ++ L).set (H.length + n) x = H ++ L.set n x := by rw [List.set_append_right _ _ (by omega)]; simp
theorem atX {H L : Heap} {n : Nat} {x : AObj} (h : L[n]? = some x) : (H ++ L)[H.length + n]? = some x := atN.trans h
def capEq (a b : Cap) : Bool := decide (a.ty = b.ty) && (decide (a.th = b.th) && (decide (a.ri = b.ri) && decide (a.ba = b.ba)))
theorem capEq_iff {a b : Cap} : capEq a b = true ↔ a = b := by cases a; cases b; simp [capEq]
@[go_sem high] theorem capEq_lit {x0 x1 x2 x3 y0 y1 y2 y3 : Int} : cellsEq [0, 0, 0, 0] [.int .i64 x0, .int .i64 x1, .int .i64 x2, .int .i64 x3] [.int .i64 y0, .int .i64 y1, .int .i64 y2, .int .i64 y3] = some (capEq ⟨x0, x1, x2, x3⟩ ⟨y0, y1, y2, y3⟩) := by
 simp [cellsEq, cellEq, capEq]
@[go_sem] theorem capEq_self {a : Cap} : capEq a a = true := capEq_iff.2 rfl
attribute [irreducible] capEq
theorem slot_at {s : State} {u : Int} (h0 : 0 ≤ u) (h1 : u < s.slots.length) : (u < 0) = False ∧ ((s.slots.length : Int) ≤ u) = False ∧ (0 ≤ u) = True ∧ (u < (s.slots.length : Int)) = True ∧
 (s.slots.map Slot.cells)[u.toNat]? = some [.int .i64 (s.slot u.toNat).cap.ty, .int .i64 (s.slot u.toNat).cap.th, .int .i64 (s.slot u.toNat).cap.ri, .int .i64 (s.slot u.toNat).cap.ba, .int .i64 (s.slot u.toNat).up] :=
 ⟨eq_false (by omega), eq_false (by omega), eq_true h0, eq_true h1, slots_get (by omega)⟩
end Go.Ax.M
