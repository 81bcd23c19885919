/- Arguments that are what threads ask in words. Conditions: none. -/
import Derived.Test.YtlaipllgmddkiaaGreatSArgZ
set_option linter.all false
namespace Go.Ax.M
open Go Go.Ax
structure Step where
 th : Int
 l0 : Int
 l1 : Int
 l2 : Int
 l3 : Int
def Step.cells (x : Step) : List AVal := [.int .i64 x.th, .int .u64 x.l0, .int .u64 x.l1, .int .u64 x.l2, .int .u64 x.l3]
def Step.zero : Step := ⟨0, 0, 0, 0, 0⟩
def Step.Ok (x : Step) : Prop := (0 ≤ x.l0 ∧ x.l0 < 2 ^ 64) ∧ (0 ≤ x.l1 ∧ x.l1 < 2 ^ 64) ∧ (0 ≤ x.l2 ∧ x.l2 < 2 ^ 64) ∧ (0 ≤ x.l3 ∧ x.l3 < 2 ^ 64)
theorem steps_get {l : List Step} {k : Nat} (h : k < l.length) : (l.map Step.cells)[k]? = some [.int .i64 (l.getD k .zero).th, .int .u64 (l.getD k .zero).l0, .int .u64 (l.getD k .zero).l1, .int .u64 (l.getD k .zero).l2, .int .u64 (l.getD k .zero).l3] := by
 simp [h, List.getD, Step.cells]
theorem steps_four {x : Step} : ∀ k, k < 4 → ([.int .i64 x.th, .int .u64 x.l0, .int .u64 x.l1, .int .u64 x.l2, .int .u64 x.l3] : List AVal)[1 + k]? = some (.int .u64 ([x.l0, x.l1, x.l2, x.l3].getD k 0)) := by
 intro k hk
 rcases (by omega : k = 0 ∨ k = 1 ∨ k = 2 ∨ k = 3) with rfl | rfl | rfl | rfl <;> rfl
theorem step_mem {l : List Step} (h : ∀ x ∈ l, x.Ok) {k : Nat} (hk : k < l.length) : (l.getD k .zero).Ok := by
 have : l.getD k .zero = l[k] := by simp [List.getD, hk]
 rw [this]; exact h _ (List.getElem_mem hk)
end Go.Ax.M
namespace Go.Proofs.YtlaipllgmddkiaaGreat.Ax
open Go Go.Ax Go.Ax.M
set_option maxRecDepth 100000
theorem wf_u {n : Int} (h : (Lit.int .u64 n).wf = true) : 0 ≤ n ∧ n < 2 ^ 64 := by
 simp [Lit.wf, IntKind.min, IntKind.max, IntKind.bits, IntKind.signed] at h
 omega
theorem shape_dataW {H : Heap} {k : Nat} {cs : List AVal} (hs : Shape Tryz.prog H (k + 2) 65 cs) : ∃ a b c d : Int, cs = [.int .u64 a, .int .u64 b, .int .u64 c, .int .u64 d] ∧ (0 ≤ a ∧ a < 2 ^ 64) ∧ (0 ≤ b ∧ b < 2 ^ 64) ∧ (0 ≤ c ∧ c < 2 ^ 64) ∧ (0 ≤ d ∧ d < 2 ^ 64) := by
 obtain ⟨ass, rfl, hl, h⟩ := hs.array Tryz.underlying65
 match ass, hl, h with
 | [a1, a2, a3, a4], _, h =>
  obtain ⟨x1, rfl, w1⟩ := (h a1 (by simp)).int Tryz.underlying31
  obtain ⟨x2, rfl, w2⟩ := (h a2 (by simp)).int Tryz.underlying31
  obtain ⟨x3, rfl, w3⟩ := (h a3 (by simp)).int Tryz.underlying31
  obtain ⟨x4, rfl, w4⟩ := (h a4 (by simp)).int Tryz.underlying31
  exact ⟨x1, x2, x3, x4, rfl, wf_u w1, wf_u w2, wf_u w3, wf_u w4⟩
theorem shape_step {H : Heap} {k : Nat} {cs : List AVal} (hs : Shape Tryz.prog H (k + 3) 67 cs) : ∃ x : M.Step, cs = x.cells ∧ x.Ok := by
 obtain ⟨ass, rfl, h⟩ := hs.struct Tryz.underlying67
 obtain ⟨a1, ass, rfl, h1, h⟩ := shapeL_cons h
 obtain ⟨a2, ass, rfl, h2, h⟩ := shapeL_cons h
 obtain rfl := shapeL_nil h
 obtain ⟨x1, rfl, -⟩ := h1.int Tryz.underlying3
 obtain ⟨d0, d1, d2, d3, rfl, w⟩ := shape_dataW h2
 exact ⟨⟨x1, d0, d1, d2, d3⟩, rfl, w⟩
theorem map_of2 {α : Type} {f : α → List AVal} {p : α → Prop} : ∀ {xs : List (List AVal)}, (∀ x ∈ xs, ∃ a, x = f a ∧ p a) → ∃ l : List α, xs = l.map f ∧ ∀ a ∈ l, p a
 | [], _ => ⟨[], rfl, by simp⟩
 | x :: xs, h => by
  obtain ⟨a, rfl, ha⟩ := h x List.mem_cons_self
  obtain ⟨l, rfl, hl⟩ := map_of2 (xs := xs) (fun y hy => h y (List.mem_cons_of_mem _ hy))
  exact ⟨a :: l, rfl, fun b hb => by rcases List.mem_cons.1 hb with rfl | hb; exact ha; exact hl b hb⟩
theorem arg_steps {H : Heap} {k : Nat} {a : AVal} (h0 : ArgShape Tryz.prog H (k + 4) 63 a) : ∃ (o : Nat) (l : List M.Step), a = .slice o l.length 0 l.length false ∧ H[o]? = some (.arr 5 (l.map Step.cells) true) ∧ ∀ x ∈ l, x.Ok := by
 obtain ⟨o, n, xs, e, ho, hl, -, h⟩ := (h0.slice Tryz.underlying63).slice Tryz.underlying63
 obtain ⟨l, rfl, hok⟩ := map_of2 (f := Step.cells) (p := Step.Ok) (fun x hx => shape_step (h x hx))
 rw [show Tryz.prog.cellsOf 67 = 5 by kernel_rfl] at ho
 simp at hl; subst hl
 injection e with e _
 exact ⟨o, l, e, ho, hok⟩
end Go.Proofs.YtlaipllgmddkiaaGreat.Ax
