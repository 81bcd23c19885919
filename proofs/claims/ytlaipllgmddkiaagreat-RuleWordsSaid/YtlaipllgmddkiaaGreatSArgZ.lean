/- The arguments of laws about states, told as states, calls, ways. Conditions: none. -/
import Derived.Test.YtlaipllgmddkiaaGreatZRw
import Derived.Test.YtlaipllgmddkiaaGreatZMo
import Derived.Test.YtlaipllgmddkiaaGreatProg
import Derived.KernelRfl
set_option linter.unusedSimpArgs false
set_option linter.unusedVariables false
set_option linter.defProp false
namespace Go.Proofs.YtlaipllgmddkiaaGreat.Ax
open Go Go.Ax Go.Ax.M
set_option maxRecDepth 100000
theorem map_of {α : Type} {f : α → List AVal} : ∀ {xs : List (List AVal)}, (∀ x ∈ xs, ∃ a, x = f a) → ∃ l : List α, xs = l.map f
 | [], _ => ⟨[], rfl⟩
 | x :: xs, h => by
  obtain ⟨a, rfl⟩ := h x List.mem_cons_self
  obtain ⟨l, rfl⟩ := map_of (xs := xs) (fun y hy => h y (List.mem_cons_of_mem _ hy))
  exact ⟨a :: l, rfl⟩
theorem shapeL_cons {S : TypeId → List AVal → Prop} {f : Field} {fs : List Field} {ass : List (List AVal)} (h : ShapeL S (f :: fs) ass) : ∃ a l, ass = a :: l ∧ S f.type a ∧ ShapeL S fs l := by
 cases ass with
 | nil => exact h.elim
 | cons a l => exact ⟨a, l, rfl, h⟩
theorem shapeL_nil {S : TypeId → List AVal → Prop} {ass : List (List AVal)} (h : ShapeL S [] ass) : ass = [] := by
 cases ass with
 | nil => rfl
 | cons a l => exact h.elim
theorem shape_cap {H : Heap} {k : Nat} {cs : List AVal} (hs : Shape Tryz.prog H (k + 2) 71 cs) : ∃ c : Cap, cs = c.cells := by
 obtain ⟨ass, rfl, h⟩ := hs.struct Tryz.underlying71
 obtain ⟨a1, ass, rfl, h1, h⟩ := shapeL_cons h
 obtain ⟨a2, ass, rfl, h2, h⟩ := shapeL_cons h
 obtain ⟨a3, ass, rfl, h3, h⟩ := shapeL_cons h
 obtain ⟨a4, ass, rfl, h4, h⟩ := shapeL_cons h
 obtain rfl := shapeL_nil h
 obtain ⟨x1, rfl, -⟩ := h1.int Tryz.underlying3
 obtain ⟨x2, rfl, -⟩ := h2.int Tryz.underlying3
 obtain ⟨x3, rfl, -⟩ := h3.int Tryz.underlying3
 obtain ⟨x4, rfl, -⟩ := h4.int Tryz.underlying3
 exact ⟨⟨x1, x2, x3, x4⟩, rfl⟩
theorem shape_slot {H : Heap} {k : Nat} {cs : List AVal} (hs : Shape Tryz.prog H (k + 3) 73 cs) : ∃ c : M.Slot, cs = c.cells := by
 obtain ⟨ass, rfl, h⟩ := hs.struct Tryz.underlying73
 obtain ⟨a1, ass, rfl, h1, h⟩ := shapeL_cons h
 obtain ⟨a2, ass, rfl, h2, h⟩ := shapeL_cons h
 obtain rfl := shapeL_nil h
 obtain ⟨c, rfl⟩ := shape_cap h1
 obtain ⟨x2, rfl, -⟩ := h2.int Tryz.underlying3
 exact ⟨⟨c, x2⟩, rfl⟩
theorem shape_data {H : Heap} {k : Nat} {cs : List AVal} (hs : Shape Tryz.prog H (k + 2) 65 cs) : ∃ a b c d : Int, cs = [.int .u64 a, .int .u64 b, .int .u64 c, .int .u64 d] := by
 obtain ⟨ass, rfl, hl, h⟩ := hs.array Tryz.underlying65
 match ass, hl, h with
 | [a1, a2, a3, a4], _, h =>
  obtain ⟨x1, rfl, -⟩ := (h a1 (by simp)).int Tryz.underlying31
  obtain ⟨x2, rfl, -⟩ := (h a2 (by simp)).int Tryz.underlying31
  obtain ⟨x3, rfl, -⟩ := (h a3 (by simp)).int Tryz.underlying31
  obtain ⟨x4, rfl, -⟩ := (h a4 (by simp)).int Tryz.underlying31
  exact ⟨x1, x2, x3, x4, rfl⟩
theorem shape_thing {H : Heap} {k : Nat} {cs : List AVal} (hs : Shape Tryz.prog H (k + 3) 81 cs) : ∃ c : M.Thing, cs = c.cells := by
 obtain ⟨ass, rfl, h⟩ := hs.struct Tryz.underlying81
 obtain ⟨a1, ass, rfl, h1, h⟩ := shapeL_cons h
 obtain ⟨a2, ass, rfl, h2, h⟩ := shapeL_cons h
 obtain ⟨a3, ass, rfl, h3, h⟩ := shapeL_cons h
 obtain ⟨a4, ass, rfl, h4, h⟩ := shapeL_cons h
 obtain ⟨a5, ass, rfl, h5, h⟩ := shapeL_cons h
 obtain ⟨a6, ass, rfl, h6, h⟩ := shapeL_cons h
 obtain ⟨a7, ass, rfl, h7, h⟩ := shapeL_cons h
 obtain ⟨a8, ass, rfl, h8, h⟩ := shapeL_cons h
 obtain ⟨a9, ass, rfl, h9, h⟩ := shapeL_cons h
 obtain ⟨a10, ass, rfl, h10, h⟩ := shapeL_cons h
 obtain rfl := shapeL_nil h
 obtain ⟨x1, rfl, -⟩ := h1.int Tryz.underlying3
 obtain ⟨x2, rfl, -⟩ := h2.int Tryz.underlying3
 obtain ⟨x3, rfl, -⟩ := h3.int Tryz.underlying3
 obtain ⟨x4, rfl, -⟩ := h4.int Tryz.underlying3
 obtain ⟨x5, rfl, -⟩ := h5.int Tryz.underlying3
 obtain ⟨x6, rfl, -⟩ := h6.int Tryz.underlying3
 obtain ⟨x7, rfl, -⟩ := h7.int Tryz.underlying3
 obtain ⟨x8, rfl⟩ := h8.bool Tryz.underlying4
 obtain ⟨x9, rfl, -⟩ := h9.int Tryz.underlying31
 obtain ⟨d0, d1, d2, d3, rfl⟩ := shape_data h10
 exact ⟨⟨x1, x2, x3, x4, x5, x6, x7, x8, x9, d0, d1, d2, d3⟩, rfl⟩
theorem shape_geo {H : Heap} {k : Nat} {cs : List AVal} (hs : Shape Tryz.prog H (k + 2) 23 cs) : ∃ g : M.Geo, cs = g.cells := by
 obtain ⟨ass, rfl, h⟩ := hs.struct Tryz.underlying23
 obtain ⟨a1, ass, rfl, h1, h⟩ := shapeL_cons h
 obtain ⟨a2, ass, rfl, h2, h⟩ := shapeL_cons h
 obtain ⟨a3, ass, rfl, h3, h⟩ := shapeL_cons h
 obtain rfl := shapeL_nil h
 obtain ⟨x1, rfl, -⟩ := h1.int Tryz.underlying3
 obtain ⟨x2, rfl, -⟩ := h2.int Tryz.underlying3
 obtain ⟨x3, rfl, -⟩ := h3.int Tryz.underlying3
 exact ⟨⟨x1, x2, x3⟩, rfl⟩
theorem shape_ints {H : Heap} {k : Nat} {cs : List AVal} (hs : Shape Tryz.prog H (k + 2) 28 cs) : ∃ (o : Nat) (l : List Int), cs = [.slice o l.length 0 l.length false] ∧ H[o]? = some (.arr 1 (ints l) true) := by
 obtain ⟨o, n, xs, rfl, ho, hl, -, h⟩ := hs.slice Tryz.underlying28
 obtain ⟨l, rfl⟩ := map_of (f := fun x : Int => [AVal.int .i64 x]) (fun x hx => by
  obtain ⟨n, hn, -⟩ := (h x hx).int Tryz.underlying3
  exact ⟨n, hn⟩)
 rw [show Tryz.prog.cellsOf 3 = 1 by kernel_rfl] at ho
 simp at hl; subst hl
 exact ⟨o, l, rfl, ho⟩
theorem shape_state {H : Heap} {k : Nat} {cs : List AVal} (hs : Shape Tryz.prog H (k + 5) 27 cs) : ∃ (s : M.State) (oS oT : Nat), cs = [.int .i64 s.geo.threads, .int .i64 s.geo.slots, .int .i64 s.geo.things, .slice oS s.slots.length 0 s.slots.length false, .slice oT s.things.length 0 s.things.length false] ∧
 H[oS]? = some (.arr 5 (s.slots.map Slot.cells) true) ∧ H[oT]? = some (.arr 13 (s.things.map Thing.cells) true) := by
 obtain ⟨ass, rfl, h⟩ := hs.struct Tryz.underlying27
 obtain ⟨a1, ass, rfl, h1, h⟩ := shapeL_cons h
 obtain ⟨a2, ass, rfl, h2, h⟩ := shapeL_cons h
 obtain ⟨a3, ass, rfl, h3, h⟩ := shapeL_cons h
 obtain rfl := shapeL_nil h
 obtain ⟨g, rfl⟩ := shape_geo h1
 obtain ⟨oS, nS, xS, rfl, hoS, hlS, -, hS⟩ := h2.slice Tryz.underlying24
 obtain ⟨oT, nT, xT, rfl, hoT, hlT, -, hT⟩ := h3.slice Tryz.underlying25
 obtain ⟨slots, rfl⟩ := map_of (f := Slot.cells) (fun x hx => shape_slot (hS x hx))
 obtain ⟨things, rfl⟩ := map_of (f := Thing.cells) (fun x hx => shape_thing (hT x hx))
 rw [show Tryz.prog.cellsOf 73 = 5 by kernel_rfl] at hoS
 rw [show Tryz.prog.cellsOf 81 = 13 by kernel_rfl] at hoT
 simp at hlS hlT; subst hlS; subst hlT
 exact ⟨⟨g, slots, things⟩, oS, oT, rfl, hoS, hoT⟩
theorem arg_state {H : Heap} {k : Nat} {a : AVal} (h : ArgShape Tryz.prog H (k + 5) 27 a) : ∃ (s : M.State) (oS oT : Nat), a = stA s oS oT false false ∧
 H[oS]? = some (.arr 5 (s.slots.map Slot.cells) true) ∧ H[oT]? = some (.arr 13 (s.things.map Thing.cells) true) := by
 obtain ⟨cs, rfl, hs⟩ := h.struct Tryz.underlying27
 obtain ⟨s, oS, oT, rfl, h1, h2⟩ := shape_state hs
 exact ⟨s, oS, oT, rfl, h1, h2⟩
theorem shape_path {H : Heap} {k : Nat} {cs : List AVal} (hs : Shape Tryz.prog H (k + 3) 30 cs) : ∃ (o : Nat) (l : List Int), cs = [.slice o l.length 0 l.length false] ∧ H[o]? = some (.arr 1 (ints l) true) := by
 obtain ⟨ass, rfl, h⟩ := hs.struct Tryz.underlying30
 obtain ⟨a1, ass, rfl, h1, h⟩ := shapeL_cons h
 obtain rfl := shapeL_nil h
 obtain ⟨o, l, rfl, ho⟩ := shape_ints h1
 exact ⟨o, l, rfl, ho⟩
theorem arg_call {H : Heap} {k : Nat} {a : AVal} (h0 : ArgShape Tryz.prog H (k + 4) 33 a) : ∃ (c : M.Call) (oA oB : Nat), a = .agg [.int .i64 c.op, .slice oA c.a.length 0 c.a.length false, .slice oB c.b.length 0 c.b.length false, .int .i64 c.x, .int .i64 c.y, .int .u64 c.w] ∧
 H[oA]? = some (.arr 1 (ints c.a) true) ∧ H[oB]? = some (.arr 1 (ints c.b) true) := by
 obtain ⟨cs, rfl, hs⟩ := h0.struct Tryz.underlying33
 obtain ⟨ass, rfl, h⟩ := hs.struct Tryz.underlying33
 obtain ⟨a1, ass, rfl, h1, h⟩ := shapeL_cons h
 obtain ⟨a2, ass, rfl, h2, h⟩ := shapeL_cons h
 obtain ⟨a3, ass, rfl, h3, h⟩ := shapeL_cons h
 obtain ⟨a4, ass, rfl, h4, h⟩ := shapeL_cons h
 obtain ⟨a5, ass, rfl, h5, h⟩ := shapeL_cons h
 obtain ⟨a6, ass, rfl, h6, h⟩ := shapeL_cons h
 obtain rfl := shapeL_nil h
 obtain ⟨x1, rfl, -⟩ := h1.int Tryz.underlying3
 obtain ⟨oA, la, rfl, hA⟩ := shape_path h2
 obtain ⟨oB, lb, rfl, hB⟩ := shape_path h3
 obtain ⟨x2, rfl, -⟩ := h4.int Tryz.underlying3
 obtain ⟨x3, rfl, -⟩ := h5.int Tryz.underlying3
 obtain ⟨x4, rfl, -⟩ := h6.int Tryz.underlying31
 exact ⟨⟨x1, la, lb, x2, x3, x4⟩, oA, oB, rfl, hA, hB⟩
theorem argShapes_cons {H : Heap} {k : Nat} {t : TypeId} {ts : List TypeId} {bs : List AVal} (h : ArgShapes Tryz.prog H k (t :: ts) bs) : ∃ a l, bs = a :: l ∧ ArgShape Tryz.prog H k t a ∧ ArgShapes Tryz.prog H k ts l := by
 cases bs with
 | nil => exact h.elim
 | cons a l => exact ⟨a, l, rfl, h⟩
theorem argShapes_nil {H : Heap} {k : Nat} {bs : List AVal} (h : ArgShapes Tryz.prog H k [] bs) : bs = [] := by
 cases bs with
 | nil => rfl
 | cons a l => exact h.elim
end Go.Proofs.YtlaipllgmddkiaaGreat.Ax
