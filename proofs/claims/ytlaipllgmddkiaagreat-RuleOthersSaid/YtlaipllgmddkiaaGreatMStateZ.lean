/- States as plain data, and what may be. No program in sight. Conditions: none. -/
import Derived.Test.YtlaipllgmddkiaaGreatMBaseZ
import Derived.Test.YtlaipllgmddkiaaGreatSLoopZ
set_option linter.all false
namespace Go.Ax.M
open Go Go.Ax
structure Slot where
 cap : Cap
 up : Int
 deriving DecidableEq, Inhabited
def Slot.cells (x : Slot) : List AVal := [.int .i64 x.cap.ty, .int .i64 x.cap.th, .int .i64 x.cap.ri, .int .i64 x.cap.ba, .int .i64 x.up]
@[go_sem] theorem Slot.eta {x : Slot} : (⟨x.cap, x.up⟩ : Slot) = x := rfl
def Slot.zero : Slot := ⟨.zero, 0⟩
structure State where
 geo : Geo
 slots : List Slot
 things : List Thing
 deriving DecidableEq, Inhabited
def State.slot (s : State) (k : Nat) : Slot := s.slots.getD k Slot.zero
def State.thing (s : State) (k : Nat) : Thing := s.things.getD k Thing.zero
def sThere (s : State) (t : Int) : Bool := decide (0 ≤ t) && (decide (t < s.things.length) && !decide ((s.thing t.toNat).ty = 0))
def capOk (s : State) (x : Slot) : Bool :=
 cGood x.cap && ((bif cNone x.cap then decide (x.up = -1) else decide (-1 ≤ x.up)) && (cNone x.cap || (sThere s x.cap.th && decide ((s.thing x.cap.th.toNat).ty = x.cap.ty))))
def sCaps (s : State) : Bool := s.slots.all (capOk s)
def holdB (s : State) (t : Int) (k : Nat) : Bool := !cNone (s.slot k).cap && decide ((s.slot k).cap.th = t)
def sHolders (s : State) (t : Int) : List Int := pick (holdB s t) s.slots.length
def rootB (s : State) (i : Nat) : Bool := decide (2 ≤ (i : Int)) && decide ((i : Int) < 2 + s.geo.threads)
def rootT (g : Geo) (n : Int) : Thing := ⟨2, 3, gRoot g n, 0, 0, 0, 0, false, 0, 0, 0, 0, 0⟩
def fromOk (s : State) (t : Thing) : Bool := !decide (0 < t.from_) || (!decide ((s.slots.length : Int) < t.from_) && !cNone (s.slot (t.from_ - 1).toNat).cap)
def thingOk (s : State) (i : Nat) : Bool :=
 tGood (s.thing i) && (fromOk s (s.thing i) && (bif rootB s i then tEq (s.thing i) (rootT s.geo (i - 2)) else (decide ((s.thing i).ty = 0) || !decide (((sHolders s i).length : Int) = 0))))
def sThings (s : State) : Bool := (List.range s.things.length).all (thingOk s)
def allowedB (s : State) (x : Slot) : Bool := decide (x.up < 0) || (cLess x.cap (s.slot x.up.toNat).cap || (decide ((s.slot x.up.toNat).cap.ty = 1) && !decide (x.cap.th = (s.slot x.up.toNat).cap.th)))
def sAllowed (s : State) : Bool := s.slots.all (allowedB s)
def upOf (x : Slot) : Int := bif cNone x.cap then -2 else x.up
def sForest (s : State) : List Int := s.slots.map upOf
def tHas (t : Thing) (slot : Int) : Bool := decide (t.ty = 2) && (decide (t.base ≤ slot) && decide (slot < t.base + p2 t.bits))
def sOwner (s : State) (slot : Int) : Int := findI (fun k => tHas (s.thing k) slot) s.things.length
def ThingsOk (s : State) : Prop := ∀ k, k < s.things.length → tGood (s.thing k) = true
theorem tGood_node {t : Thing} (h : tGood t = true) (h2 : t.ty = 2) : inB t.bits 1 4 = true ∧ 0 ≤ t.base ∧ t.base + p2 t.bits ≤ 96 := by
 simp [tGood, h2, inB] at h
 simp [inB]; omega
def withinStep (s : State) (f : Int → List Int → List Int) (node : Int) (had : List Int) (i : Nat) : List Int :=
 bif decide ((s.slot i).cap.ty = 2) && (tHas (s.thing node.toNat) i && sThere s (s.slot i).cap.th) then f (s.slot i).cap.th had else had
def withinF (s : State) : Nat → Int → List Int → List Int
 | 0, _, had => had
 | n + 1, node, had => bif had.contains node then had else (List.range s.slots.length).foldl (withinStep s (withinF s n) node) (had ++ [node])
def sInside (s : State) (node slot : Int) : Bool :=
 sThere s node && (decide ((s.thing node.toNat).ty = 2) && (withinF s (s.things.length + 1) node []).contains (sOwner s slot))
def lacks (s : State) (l : List Int) : Nat := (List.range s.things.length).countP fun (k : Nat) => !l.contains ((k : Nat) : Int)
theorem countP_lt {α : Type} {p q : α → Bool} : ∀ {L : List α}, (∀ x ∈ L, q x = true → p x = true) → (∃ a ∈ L, p a = true ∧ q a = false) → L.countP q < L.countP p
 | [], _, h => by obtain ⟨a, ha, _⟩ := h; cases ha
 | x :: L, hm, h => by
  have hle : L.countP q ≤ L.countP p := List.countP_mono_left fun y hy => hm y (List.mem_cons_of_mem _ hy)
  rw [List.countP_cons, List.countP_cons]
  obtain ⟨a, ha, h1, h2⟩ := h
  rcases List.mem_cons.1 ha with rfl | ha
  ·simp [h1, h2]; omega
  ·have := countP_lt (fun y hy => hm y (List.mem_cons_of_mem _ hy)) ⟨a, ha, h1, h2⟩
   have hx := hm x List.mem_cons_self
   cases hq : q x <;> cases hp : p x <;> simp_all <;> omega
theorem lacks_le {s : State} {l : List Int} : lacks s l ≤ s.things.length := by
 unfold lacks; exact Nat.le_trans List.countP_le_length (by simp)
theorem lacks_lt {s : State} {l l' : List Int} {n : Int} (hsub : ∀ x ∈ l, x ∈ l') (h0 : 0 ≤ n) (h1 : n < s.things.length) (hn : l.contains n = false) (hn' : n ∈ l') : lacks s l' < lacks s l := by
 refine countP_lt (fun x _ hx => ?_) ⟨n.toNat, List.mem_range.2 (by omega), ?_, ?_⟩
 ·simp at hx ⊢; exact fun h => hx (hsub _ h)
 ·rw [show ((n.toNat : Nat) : Int) = n by omega, hn]; rfl
 ·rw [show ((n.toNat : Nat) : Int) = n by omega]; simp [hn']
theorem withinF_sub {s : State} : ∀ {n : Nat} {node : Int} {l : List Int} {x : Int}, x ∈ l → x ∈ withinF s n node l
 | 0, _, _, _, h => h
 | n + 1, node, l, x, h => by
  rw [withinF]
  cases l.contains node with
  | true => exact h
  | false =>
   have : ∀ (L : List Nat) (l : List Int), x ∈ l → x ∈ L.foldl (withinStep s (withinF s n) node) l := by
    intro L
    induction L with
    | nil => exact fun l h => h
    | cons i L ih =>
     intro l h
     rw [List.foldl_cons]
     refine ih _ ?_
     unfold withinStep
     cases (decide ((s.slot i).cap.ty = 2) && (tHas (s.thing node.toNat) i && sThere s (s.slot i).cap.th)) with
     | true => exact withinF_sub h
     | false => exact h
   exact this _ _ (by simp [h])
theorem fold_sub {s : State} {n : Nat} {node : Int} {x : Int} : ∀ (L : List Nat) (l : List Int), x ∈ l → x ∈ L.foldl (withinStep s (withinF s n) node) l
 | [], _, h => h
 | i :: L, l, h => by
  rw [List.foldl_cons]
  refine fold_sub L _ ?_
  unfold withinStep
  cases (decide ((s.slot i).cap.ty = 2) && (tHas (s.thing node.toNat) i && sThere s (s.slot i).cap.th)) with
  | true => exact withinF_sub h
  | false => exact h
def hadEs (l : List Int) : List (AVal × AVal) := l.map fun n => (.int .i64 n, .bool true)
theorem mfind_had {n : Int} : ∀ {l : List Int}, mfind .i64 n (hadEs l) = some (bif l.contains n then some (.bool true) else none)
 | [] => rfl
 | a :: l => by
  have ih := mfind_had (n := n) (l := l)
  simp only [hadEs] at ih
  simp only [hadEs, List.map_cons, mfind, if_true, ih]
  by_cases h : n = a
  ·simp [h]
  ·simp [h]
theorem mput_had {n : Int} : ∀ {l : List Int}, l.contains n = false → mput .i64 n (.bool true) (hadEs l) = hadEs (l ++ [n])
 | [], _ => rfl
 | a :: l, h => by
  have h1 : ¬ n = a := by intro e; subst e; simp at h
  have h2 : l.contains n = false := by simp at h ⊢; exact h.2
  have ih := mput_had (n := n) (l := l) h2
  simp only [hadEs] at ih
  simp only [hadEs, List.map_cons, List.cons_append, mput, h1, if_false, ih]
def ringB (s : State) (i : Nat) : Bool := decide ((s.slot i).cap.ty = 2) && sInside s (s.slot i).cap.th i
def sRing (s : State) : Bool := !(List.range s.slots.length).all fun i => !ringB s i
def markStep (base : Int) (had : Option (List Bool)) (i : Nat) : Option (List Bool) := match had with
 | none => none
 | some h => bif decide (base + i < h.length) && !h.getD (base + i).toNat false then some (h.set (base + i).toNat true) else none
def nodeStep (s : State) (had : Option (List Bool)) (k : Nat) : Option (List Bool) :=
 bif decide ((s.thing k).ty = 2) then (List.range (p2 (s.thing k).bits).toNat).foldl (markStep (s.thing k).base) had else had
def nodesHad (s : State) (k : Nat) : Option (List Bool) := (List.range k).foldl (nodeStep s) (some (List.replicate s.slots.length false))
def sNodes (s : State) : Bool := match nodesHad s s.things.length with
 | none => false
 | some h => (List.range s.slots.length).all fun i => h.getD i false || cNone (s.slot i).cap
theorem mark_none {b : Int} : ∀ (L : List Nat), L.foldl (markStep b) none = none
 | [] => rfl
 | _ :: L => mark_none L
theorem nodesHad_succ {s : State} {k : Nat} : nodesHad s (k + 1) = nodeStep s (nodesHad s k) k := by simp [nodesHad, List.range_succ]
theorem nodesHad_none {s : State} {k n : Nat} (h : nodesHad s k = none) (hk : k ≤ n) : nodesHad s n = none := by
 obtain ⟨m, rfl⟩ := Nat.exists_eq_add_of_le hk
 induction m with
 | zero => exact h
 | succ m ih => rw [← Nat.add_assoc, nodesHad_succ, ih (by omega)]; unfold nodeStep; rw [mark_none]; cases decide ((s.thing (k + m)).ty = 2) <;> rfl
def marks (b : Int) (had : List Bool) (i : Nat) : Option (List Bool) := (List.range i).foldl (markStep b) (some had)
theorem marks_succ {b : Int} {had : List Bool} {i : Nat} : marks b had (i + 1) = markStep b (marks b had i) i := by simp [marks, List.range_succ]
theorem marks_none {b : Int} {had : List Bool} {i n : Nat} (h : marks b had i = none) (hk : i ≤ n) : marks b had n = none := by
 obtain ⟨m, rfl⟩ := Nat.exists_eq_add_of_le hk
 induction m with
 | zero => exact h
 | succ m ih => rw [← Nat.add_assoc, marks_succ, ih (by omega)]; rfl
theorem sNodes_none {s : State} {k i N : Nat} {had : List Bool} (hI : nodesHad s k = some had) (h2 : (s.thing k).ty = 2) (hN : (p2 (s.thing k).bits).toNat = N) (hm : marks (s.thing k).base had (i + 1) = none) (hi : i < N) (hk : k < s.things.length) : nodesHad s s.things.length = none := by
 refine nodesHad_none (k := k + 1) ?_ hk
 rw [nodesHad_succ, hI]
 have := marks_none hm (n := N) hi
 simp only [nodeStep, h2, decide_true, cond_true, hN]
 exact this
theorem sNodes_some {s : State} {k N : Nat} {had had' : List Bool} (hI : nodesHad s k = some had) (h2 : (s.thing k).ty = 2) (hN : (p2 (s.thing k).bits).toNat = N) (hm : marks (s.thing k).base had N = some had') : nodesHad s (k + 1) = some had' := by
 rw [nodesHad_succ, hI]
 simp only [nodeStep, h2, decide_true, cond_true, hN]
 exact hm
theorem marks_len {b : Int} {had h : List Bool} {i : Nat} (e : marks b had i = some h) : h.length = had.length := by
 induction i generalizing h with
 | zero => simp [marks] at e; rw [e]
 | succ i ih =>
  rw [marks_succ] at e
  unfold markStep at e
  split at e
  ·cases e
  ·rename_i h0 h1
   cases hc : (decide (b + i < h0.length) && !h0.getD (b + i).toNat false) with
   | false => rw [hc] at e; cases e
   | true => rw [hc] at e; simp at e; rw [← e, List.length_set]; exact ih h1
def bools (l : List Bool) : List (List AVal) := l.map fun x => [.bool x]
@[go_sem] theorem bools_length {l : List Bool} : (bools l).length = l.length := by simp [bools]
theorem bools_get {l : List Bool} {k : Nat} (h : k < l.length) : (bools l)[k]? = some [.bool (l.getD k false)] := by simp [bools, h, List.getD]
theorem bools_set {l : List Bool} {k : Nat} {b : Bool} : (bools l).set k [.bool b] = bools (l.set k b) := by simp [bools, List.map_set]
theorem bools_rep {n : Nat} : bools (List.replicate n false) = List.replicate n [.bool false] := by simp [bools]
def sGood (s : State) : Bool :=
 gGood s.geo && (decide ((s.slots.length : Int) = s.geo.slots) && (decide ((s.things.length : Int) = s.geo.things) && (sCaps s && (sThings s && (sNodes s && (!sRing s && (fGood (sForest s) && sAllowed s)))))))
theorem thingsOk_of {s : State} (h : sThings s = true) : ThingsOk s := by
 intro k hk
 have := List.all_eq_true.1 (show (List.range s.things.length).all (thingOk s) = true by simpa [sThings] using h) k (List.mem_range.2 hk)
 simp [thingOk] at this
 exact this.1
theorem sForest_length {s : State} : (sForest s).length = s.slots.length := by simp [sForest]
theorem sForest_get {s : State} {k : Nat} (hk : k < s.slots.length) : (sForest s).getD k 0 = upOf (s.slot k) := by simp [sForest, State.slot, hk, List.getD]
theorem slot_mem {s : State} {k : Nat} (hk : k < s.slots.length) : s.slot k ∈ s.slots := by
 simp [State.slot, hk, List.getD]
theorem up_lt {s : State} (hc : sCaps s = true) (hf : fGood (sForest s) = true) (k : Nat) (hk : k < s.slots.length) : (s.slot k).up < s.slots.length := by
 have h1 := List.all_eq_true.1 (show s.slots.all (capOk s) = true by simpa [sCaps] using hc) _ (slot_mem hk)
 have h2 : (sForest s).all (fUp (sForest s)) = true := by simp only [fGood, Bool.and_eq_true] at hf; exact hf.2.1
 have h3 := List.all_eq_true.1 h2 (upOf (s.slot k)) (by simp [sForest]; exact ⟨_, slot_mem hk, rfl⟩)
 cases hn : cNone (s.slot k).cap with
 | true => simp [capOk, hn] at h1; omega
 | false =>
  simp [upOf, hn, fUp, fIs, sForest_length] at h3
  omega
structure StOk (s : State) : Prop where
 geo : gGood s.geo = true
 slots : (s.slots.length : Int) = s.geo.slots
 things : (s.things.length : Int) = s.geo.things
 caps : sCaps s = true
 thingsB : sThings s = true
 nodes : sNodes s = true
 ring : sRing s = false
 forest : fGood (sForest s) = true
 allowed : sAllowed s = true
theorem stOk_of {s : State} (h : sGood s = true) : StOk s := by
 simp only [sGood, Bool.and_eq_true, decide_eq_true_eq, Bool.not_eq_true'] at h
 exact ⟨h.1, h.2.1, h.2.2.1, h.2.2.2.1, h.2.2.2.2.1, h.2.2.2.2.2.1, h.2.2.2.2.2.2.1, h.2.2.2.2.2.2.2.1, h.2.2.2.2.2.2.2.2⟩
theorem StOk.good {s : State} (h : StOk s) : sGood s = true := by
 simp only [sGood, Bool.and_eq_true, decide_eq_true_eq, Bool.not_eq_true']
 exact ⟨h.geo, h.slots, h.things, h.caps, h.thingsB, h.nodes, h.ring, h.forest, h.allowed⟩
theorem StOk.ok {s : State} (h : StOk s) : ThingsOk s := thingsOk_of h.thingsB
theorem StOk.lS {s : State} (h : StOk s) : 8 ≤ s.slots.length ∧ s.slots.length ≤ 96 := by have := gGood_bb h.geo; have := h.slots; omega
theorem StOk.lT {s : State} (h : StOk s) : 3 ≤ s.things.length ∧ s.things.length ≤ 48 := by have := gGood_bb h.geo; have := h.things; omega
def slEq (a b : Slot) : Bool := decide (a.cap.ty = b.cap.ty) && (decide (a.cap.th = b.cap.th) && (decide (a.cap.ri = b.cap.ri) && (decide (a.cap.ba = b.cap.ba) && decide (a.up = b.up))))
theorem slEq_iff {a b : Slot} : slEq a b = true ↔ a = b := by
 obtain ⟨⟨_, _, _, _⟩, _⟩ := a; obtain ⟨⟨_, _, _, _⟩, _⟩ := b; simp [slEq, and_assoc]
@[go_sem high] theorem slEq_lit {x0 x1 x2 x3 x4 y0 y1 y2 y3 y4 : Int} : cellsEq [0, 0, 0, 0, 0] [.int .i64 x0, .int .i64 x1, .int .i64 x2, .int .i64 x3, .int .i64 x4] [.int .i64 y0, .int .i64 y1, .int .i64 y2, .int .i64 y3, .int .i64 y4] = some (slEq ⟨⟨x0, x1, x2, x3⟩, x4⟩ ⟨⟨y0, y1, y2, y3⟩, y4⟩) := by
 simp [cellsEq, cellEq, slEq]
def listEq {α : Type} (f : α → α → Bool) (d : α) (a b : List α) : Bool := decide (a.length = b.length) && (List.range a.length).all fun k => f (a.getD k d) (b.getD k d)
theorem listEq_iff {α : Type} {f : α → α → Bool} {d : α} (hf : ∀ x y, f x y = true ↔ x = y) {a b : List α} : listEq f d a b = true ↔ a = b := by
 constructor
 ·intro h
  simp only [listEq, Bool.and_eq_true, decide_eq_true_eq, List.all_eq_true, List.mem_range, hf] at h
  apply List.ext_getElem h.1
  intro i h1 h2
  have := h.2 i h1
  simpa [List.getD, h1, h2] using this
 ·rintro rfl
  simp [listEq, hf]
def gEq (a b : Geo) : Bool := decide (a.threads = b.threads) && (decide (a.slots = b.slots) && decide (a.things = b.things))
theorem gEq_iff {a b : Geo} : gEq a b = true ↔ a = b := by cases a; cases b; simp [gEq]
@[go_sem high] theorem gEq_lit {x0 x1 x2 y0 y1 y2 : Int} : cellsEq [0, 0, 0] [.int .i64 x0, .int .i64 x1, .int .i64 x2] [.int .i64 y0, .int .i64 y1, .int .i64 y2] = some (gEq ⟨x0, x1, x2⟩ ⟨y0, y1, y2⟩) := by
 simp [cellsEq, cellEq, gEq]
def sSame (a b : State) : Bool := gEq a.geo b.geo && (listEq slEq .zero a.slots b.slots && listEq tEq .zero a.things b.things)
theorem sSame_iff {a b : State} : sSame a b = true ↔ a = b := by
 obtain ⟨ga, sa, ta⟩ := a; obtain ⟨gb, sb, tb⟩ := b
 simp only [sSame, Bool.and_eq_true, gEq_iff, listEq_iff (fun x y => slEq_iff), listEq_iff (fun x y => tEq_iff), State.mk.injEq]
theorem slots_plain {l : List Slot} : ∀ x ∈ l.map Slot.cells, ∀ a ∈ x, a.plain = true := by
 intro x hx a ha
 obtain ⟨y, -, rfl⟩ := List.mem_map.1 hx
 simp [Slot.cells] at ha
 rcases ha with rfl | rfl | rfl | rfl | rfl <;> rfl
theorem things_plain {l : List Thing} : ∀ x ∈ l.map Thing.cells, ∀ a ∈ x, a.plain = true := by
 intro x hx a ha
 obtain ⟨y, -, rfl⟩ := List.mem_map.1 hx
 simp [Thing.cells] at ha
 rcases ha with rfl | rfl | rfl | rfl | rfl | rfl | rfl | rfl | rfl | rfl | rfl | rfl | rfl <;> rfl
def stV (s : State) (o o' : Nat) (f f' : Bool) : AVal := .agg [.int .i64 s.geo.threads, .int .i64 s.geo.slots, .int .i64 s.geo.things, .slice o s.slots.length 0 s.slots.length f, .slice o' s.things.length 0 s.things.length f']
def slotsO (s : State) : AObj := .arr 5 (s.slots.map Slot.cells) false
def thingsO (s : State) : AObj := .arr 13 (s.things.map Thing.cells) false
theorem Gc.state {H L : Heap} {K : AVal → Heap → Prop} {i j : Nat} {s : State} {f f' : Bool} (hi : L[i]? = some (slotsO s)) (hj : L[j]? = some (thingsO s)) (hij : i ≠ j) (h : K (stV s H.length (H.length + 1) f f') (H ++ [slotsO s, thingsO s])) :
 Gc H K (stV s (H.length + i) (H.length + j) f f') (H ++ L) := by
 refine ⟨[i, j], L, [slotsO s, thingsO s], _, rfl, Sel.two hi hj hij (.plain slots_plain) (.plain things_plain), ?_, h⟩
 refine ⟨_, rfl, _, _, rfl, rfl, _, _, rfl, rfl, _, _, rfl, rfl, _, _, rfl, ⟨H.length, rfl, .inr ⟨i, 0, rfl, rfl, rfl⟩⟩, _, _, rfl, ⟨H.length + 1, rfl, .inr ⟨j, 1, rfl, rfl, rfl⟩⟩, rfl⟩
def sFree (s : State) : Int := bif sGood s then findI (fun k => decide ((s.thing k).ty = 0)) s.things.length else -1
def sOwnerX (s : State) (n : Int) : Int := bif sGood s && (decide (0 ≤ n) && decide (n < s.slots.length)) then sOwner s n else -1
def sInsideX (s : State) (node n : Int) : Bool := sGood s && (decide (0 ≤ n) && (decide (n < s.slots.length) && sInside s node n))
def gapGo (s : State) (m : Int) : Nat → Nat → Int → Int × Bool
 | 0, _, _ => (0, false)
 | r + 1, i, many => let n := bif decide (sOwner s i = -1) then many + 1 else 0
  bif decide (n = m) then ((i : Int) + 1 - n, true) else gapGo s m r (i + 1) n
def sGap (s : State) (bits : Int) : Int × Bool := bif sGood s && (decide (1 ≤ bits) && decide (bits ≤ 4)) then gapGo s (p2 bits) s.slots.length 0 0 else (0, false)
theorem slots_get {s : State} {k : Nat} (h : k < s.slots.length) : (s.slots.map Slot.cells)[k]? = some [.int .i64 (s.slot k).cap.ty, .int .i64 (s.slot k).cap.th, .int .i64 (s.slot k).cap.ri, .int .i64 (s.slot k).cap.ba, .int .i64 (s.slot k).up] := by
 simp [State.slot, h, List.getD, Slot.cells]
theorem things_get {s : State} {k : Nat} (h : k < s.things.length) : (s.things.map Thing.cells)[k]? = some [.int .i64 (s.thing k).ty, .int .i64 (s.thing k).bits, .int .i64 (s.thing k).base, .int .i64 (s.thing k).size, .int .i64 (s.thing k).used, .int .i64 (s.thing k).from_, .int .i64 (s.thing k).badge, .bool (s.thing k).full, .int .u64 (s.thing k).word, .int .u64 (s.thing k).d0, .int .u64 (s.thing k).d1, .int .u64 (s.thing k).d2, .int .u64 (s.thing k).d3] := by
 simp [State.thing, h, List.getD, Thing.cells]
theorem there_get {s : State} {t : Int} (h : sThere s t = true) : (0 ≤ t) = True ∧ (t < (s.things.length : Int)) = True ∧ (s.things.map Thing.cells)[t.toNat]? = some [.int .i64 (s.thing t.toNat).ty, .int .i64 (s.thing t.toNat).bits, .int .i64 (s.thing t.toNat).base, .int .i64 (s.thing t.toNat).size, .int .i64 (s.thing t.toNat).used, .int .i64 (s.thing t.toNat).from_, .int .i64 (s.thing t.toNat).badge, .bool (s.thing t.toNat).full, .int .u64 (s.thing t.toNat).word, .int .u64 (s.thing t.toNat).d0, .int .u64 (s.thing t.toNat).d1, .int .u64 (s.thing t.toNat).d2, .int .u64 (s.thing t.toNat).d3] := by
 simp [sThere] at h
 exact ⟨by simp [h], by simp [h], things_get (by omega)⟩
theorem slot_all {s : State} {p : Slot → Bool} {k : Nat} (hk : k < s.slots.length) : (s.slots.take (k + 1)).all p = ((s.slots.take k).all p && p (s.slot k)) := all_take_d hk
theorem slot_false {s : State} {p : Slot → Bool} {k : Nat} (hk : k < s.slots.length) (h : p (s.slot k) = false) : s.slots.all p = false := all_false hk h
theorem slot_take {s : State} {k : Nat} (hk : k < s.slots.length) : s.slots.take (k + 1) = s.slots.take k ++ [s.slot k] := by rw [List.take_succ_eq_append_getElem hk]; simp [State.slot, List.getD, hk]
attribute [go_sem] List.length_map
attribute [irreducible] sThere capOk sCaps holdB sHolders rootB fromOk thingOk sThings allowedB sAllowed upOf tHas sOwner withinStep sInside ringB sRing sNodes sGood slEq listEq gEq sSame sFree sOwnerX sInsideX sGap
@[reducible, simp, go_sem] def stA (s : State) (o p : Nat) (f g : Bool) : AVal := .agg [.int .i64 s.geo.threads, .int .i64 s.geo.slots, .int .i64 s.geo.things, .slice o s.slots.length 0 s.slots.length f, .slice p s.things.length 0 s.things.length g]
end Go.Ax.M
