/- The arguments of laws about rows and memories. Conditions: none. -/
import Derived.Test.YtfahkkefcdeohaaZRw
import Derived.Test.YtfahkkefcdeohaaSLoopZ
import Derived.Test.YtfahkkefcdeohaaProg
import Derived.KernelRfl
set_option linter.unusedSimpArgs false
set_option linter.unusedVariables false
namespace Go.Proofs.Ytfahkkefcdeohaa.Ax
open Go Go.Ax
set_option maxRecDepth 100000

theorem map_of {α : Type} {f : α → List AVal} : ∀ {xs : List (List AVal)}, (∀ x ∈ xs, ∃ a, x = f a) → ∃ l : List α, xs = l.map f
  | [], _ => ⟨[], rfl⟩
  | x :: xs, h => by
    obtain ⟨a, rfl⟩ := h x List.mem_cons_self
    obtain ⟨l, rfl⟩ := map_of (xs := xs) (fun y hy => h y (List.mem_cons_of_mem _ hy))
    exact ⟨a :: l, rfl⟩

theorem shapeL_cons {S : TypeId → List AVal → Prop} {f : Field} {fs : List Field} {ass : List (List AVal)} (h : ShapeL S (f :: fs) ass) : ∃ a l, ass = a :: l ∧ S f.type a ∧ ShapeL S fs l := by
  cases ass with
  | nil => exact h.elim
  | cons a l => exact ⟨a, l, rfl, h⟩
theorem shapeL_nil {S : TypeId → List AVal → Prop} {ass : List (List AVal)} (h : ShapeL S [] ass) : ass = [] := by
  cases ass with
  | nil => rfl
  | cons a l => exact h.elim

theorem shape_ints {H : Heap} {k : Nat} {cs : List AVal} (hs : Shape Try.prog H (k + 2) 40 cs) : ∃ (o : Nat) (l : List Int), cs = [.slice o l.length 0 l.length false] ∧ H[o]? = some (.arr 1 (ints l) true) := by
  obtain ⟨o, n, xs, rfl, ho, hl, -, h⟩ := hs.slice Try.underlying40
  obtain ⟨l, rfl⟩ := map_of (f := fun x : Int => [AVal.int .i64 x]) (fun x hx => by
    obtain ⟨n, hn, -⟩ := (h x hx).int Try.underlying3
    exact ⟨n, hn⟩)
  rw [show Try.prog.cellsOf 3 = 1 by kernel_rfl] at ho
  simp at hl; subst hl
  exact ⟨o, l, rfl, ho⟩
theorem arg_ints {H : Heap} {k : Nat} {a : AVal} (h : ArgShape Try.prog H (k + 2) 40 a) : ∃ (o : Nat) (l : List Int), a = .slice o l.length 0 l.length false ∧ H[o]? = some (.arr 1 (ints l) true) := by
  obtain ⟨o, l, e, ho⟩ := shape_ints (h.slice Try.underlying40)
  injection e with e _
  exact ⟨o, l, e, ho⟩
def act3C (a : Int × Int × Int × Int × AVal) : List AVal := [.int .i64 a.1, .int .i64 a.2.1, .int .u64 a.2.2.1, .int .u64 a.2.2.2.1, a.2.2.2.2]
theorem shape_act3 {H : Heap} {k : Nat} {cs : List AVal} (hs : Shape Try.prog H (k + 3) 42 cs) : ∃ a, cs = act3C a := by
  obtain ⟨ass, rfl, h⟩ := hs.struct Try.underlying42
  obtain ⟨a1, ass, rfl, h1, h⟩ := shapeL_cons h
  obtain ⟨a2, ass, rfl, h2, h⟩ := shapeL_cons h
  obtain ⟨a3, ass, rfl, h3, h⟩ := shapeL_cons h
  obtain ⟨a4, ass, rfl, h4, h⟩ := shapeL_cons h
  obtain ⟨a5, ass, rfl, h5, h⟩ := shapeL_cons h
  obtain rfl := shapeL_nil h
  obtain ⟨x1, rfl, -⟩ := h1.int Try.underlying3
  obtain ⟨x2, rfl, -⟩ := h2.int Try.underlying3
  obtain ⟨x3, rfl, -⟩ := h3.int Try.underlying25
  obtain ⟨x4, rfl, -⟩ := h4.int Try.underlying25
  obtain ⟨o, l, rfl, -⟩ := shape_ints h5
  exact ⟨⟨x1, x2, x3, x4, _⟩, rfl⟩
theorem arg_acts3 {H : Heap} {k : Nat} {a : AVal} (h : ArgShape Try.prog H (k + 4) 35 a) : ∃ (o : Nat) (l : List (Int × Int × Int × Int × AVal)), a = .slice o l.length 0 l.length false ∧ H[o]? = some (.arr 5 (l.map act3C) true) := by
  obtain ⟨o, n, xs, e, ho, hl, -, h⟩ := (h.slice Try.underlying35).slice Try.underlying35
  obtain ⟨l, rfl⟩ := map_of (f := act3C) (fun x hx => shape_act3 (h x hx))
  rw [show Try.prog.cellsOf 42 = 5 by kernel_rfl] at ho
  simp at hl; subst hl
  injection e with e _
  exact ⟨o, l, e, ho⟩
theorem acts3_get {l : List (Int × Int × Int × Int × AVal)} {k : Nat} (h : k < l.length) : (l.map act3C)[k]? = some [.int .i64 (l.getD k (0, 0, 0, 0, .top)).1, .int .i64 (l.getD k (0, 0, 0, 0, .top)).2.1, .int .u64 (l.getD k (0, 0, 0, 0, .top)).2.2.1, .int .u64 (l.getD k (0, 0, 0, 0, .top)).2.2.2.1, (l.getD k (0, 0, 0, 0, .top)).2.2.2.2] := by simp [act3C, h, List.getD]
theorem argShapes_cons {H : Heap} {k : Nat} {t : TypeId} {ts : List TypeId} {bs : List AVal} (h : ArgShapes Try.prog H k (t :: ts) bs) : ∃ a l, bs = a :: l ∧ ArgShape Try.prog H k t a ∧ ArgShapes Try.prog H k ts l := by
  cases bs with
  | nil => exact h.elim
  | cons a l => exact ⟨a, l, rfl, h⟩
theorem argShapes_nil {H : Heap} {k : Nat} {bs : List AVal} (h : ArgShapes Try.prog H k [] bs) : bs = [] := by
  cases bs with
  | nil => rfl
  | cons a l => exact h.elim
end Go.Proofs.Ytfahkkefcdeohaa.Ax
