/- The arguments of laws about rows and memories. Conditions: none. -/
import Derived.Test.YtfahkkefcdeohaaZRw
import Derived.Test.YtfahkkefcdeohaaSLoopZ
import Derived.Test.YtfahkkefcdeohaaProg
import Derived.KernelRfl
set_option linter.unusedSimpArgs false
set_option linter.unusedVariables false
namespace Go.Proofs.Ytfahkkefcdeohaa.Ax
open Go Go.Ax
set_option maxRecDepth 100000

theorem map_of {α : Type} {f : α → List AVal} : ∀ {xs : List (List AVal)}, (∀ x ∈ xs, ∃ a, x = f a) → ∃ l : List α, xs = l.map f
  | [], _ => ⟨[], rfl⟩
  | x :: xs, h => by
    obtain ⟨a, rfl⟩ := h x List.mem_cons_self
    obtain ⟨l, rfl⟩ := map_of (xs := xs) (fun y hy => h y (List.mem_cons_of_mem _ hy))
    exact ⟨a :: l, rfl⟩

theorem shapeL_cons {S : TypeId → List AVal → Prop} {f : Field} {fs : List Field} {ass : List (List AVal)} (h : ShapeL S (f :: fs) ass) : ∃ a l, ass = a :: l ∧ S f.type a ∧ ShapeL S fs l := by
  cases ass with
  | nil => exact h.elim
  | cons a l => exact ⟨a, l, rfl, h⟩
theorem shapeL_nil {S : TypeId → List AVal → Prop} {ass : List (List AVal)} (h : ShapeL S [] ass) : ass = [] := by
  cases ass with
  | nil => rfl
  | cons a l => exact h.elim

theorem shape_ints {H : Heap} {k : Nat} {cs : List AVal} (hs : Shape Try.prog H (k + 2) 40 cs) : ∃ (o : Nat) (l : List Int), cs = [.slice o l.length 0 l.length false] ∧ H[o]? = some (.arr 1 (ints l) true) := by
  obtain ⟨o, n, xs, rfl, ho, hl, -, h⟩ := hs.slice Try.underlying40
  obtain ⟨l, rfl⟩ := map_of (f := fun x : Int => [AVal.int .i64 x]) (fun x hx => by
    obtain ⟨n, hn, -⟩ := (h x hx).int Try.underlying3
    exact ⟨n, hn⟩)
  rw [show Try.prog.cellsOf 3 = 1 by kernel_rfl] at ho
  simp at hl; subst hl
  exact ⟨o, l, rfl, ho⟩
def act3C (a : Int × Int × Int × Int × AVal) : List AVal := [.int .i64 a.1, .int .i64 a.2.1, .int .u64 a.2.2.1, .int .u64 a.2.2.2.1, a.2.2.2.2]
theorem acts3_get {l : List (Int × Int × Int × Int × AVal)} {k : Nat} (h : k < l.length) : (l.map act3C)[k]? = some [.int .i64 (l.getD k (0, 0, 0, 0, .top)).1, .int .i64 (l.getD k (0, 0, 0, 0, .top)).2.1, .int .u64 (l.getD k (0, 0, 0, 0, .top)).2.2.1, .int .u64 (l.getD k (0, 0, 0, 0, .top)).2.2.2.1, (l.getD k (0, 0, 0, 0, .top)).2.2.2.2] := by simp [act3C, h, List.getD]
theorem argShapes_cons {H : Heap} {k : Nat} {t : TypeId} {ts : List TypeId} {bs : List AVal} (h : ArgShapes Try.prog H k (t :: ts) bs) : ∃ a l, bs = a :: l ∧ ArgShape Try.prog H k t a ∧ ArgShapes Try.prog H k ts l := by
  cases bs with
  | nil => exact h.elim
  | cons a l => exact ⟨a, l, rfl, h⟩
theorem argShapes_nil {H : Heap} {k : Nat} {bs : List AVal} (h : ArgShapes Try.prog H k [] bs) : bs = [] := by
  cases bs with
  | nil => rfl
  | cons a l => exact h.elim
end Go.Proofs.Ytfahkkefcdeohaa.Ax
