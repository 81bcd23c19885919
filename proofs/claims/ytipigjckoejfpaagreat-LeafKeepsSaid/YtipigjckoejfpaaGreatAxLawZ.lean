/- From a law that is walked on the abstract machine, for all arguments of its types, to its row. Conditions: none. -/
import Derived.Test.YtipigjckoejfpaaGreatAxRowZ
import Derived.Test.YtipigjckoejfpaaGreatAxOpenZ
import Derived.Test.YtipigjckoejfpaaGreatAxWpZ
set_option linter.unusedSimpArgs false
set_option linter.unusedVariables false
namespace Go.Ax
open Go Go.ChangeShapes Go.WideShapes Go.ChangeAt Go.RowKit
set_option linter.unusedVariables false

section shapes
variable {P : Program} {H : Heap} {k : Nat} {t : TypeId} {cs : List AVal}
theorem Shape.struct {fs : Array Field} (hu : P.underlying t = some (.struct fs)) (h : Shape P H (k + 1) t cs) : ∃ ass : List (List AVal), cs = ass.flatten ∧ ShapeL (Shape P H k) fs.toList ass := by
  unfold Shape at h; rw [hu] at h; exact h
theorem Shape.array {n : Nat} {e : TypeId} (hu : P.underlying t = some (.array n e)) (h : Shape P H (k + 1) t cs) : ∃ ass : List (List AVal), cs = ass.flatten ∧ ass.length = n ∧ ∀ bs ∈ ass, Shape P H k e bs := by
  unfold Shape at h; rw [hu] at h; exact h
theorem Shape.slice {e : TypeId} (hu : P.underlying t = some (.slice e)) (h : Shape P H (k + 1) t cs) : ∃ o n xs, cs = [.slice o n 0 n false] ∧ H[o]? = some (.arr (P.cellsOf e) xs true) ∧ xs.length = n ∧ n ≤ maxLen ∧ ∀ x ∈ xs, Shape P H k e x := by
  unfold Shape at h; rw [hu] at h; exact h
theorem Shape.int {q : IntKind} (hu : P.underlying t = some (.int q)) (h : Shape P H (k + 1) t cs) : ∃ n, cs = [.int q n] ∧ (Lit.int q n).wf = true := by
  unfold Shape at h; rw [hu] at h; exact h
theorem Shape.bool (hu : P.underlying t = some .bool) (h : Shape P H (k + 1) t cs) : ∃ b, cs = [.bool b] := by
  unfold Shape at h; rw [hu] at h; exact h
theorem Shape.str (hu : P.underlying t = some .string) (h : Shape P H (k + 1) t cs) : ∃ s, cs = [.str s] ∧ s.length ≤ maxLen := by
  unfold Shape at h; rw [hu] at h; exact h
end shapes

/-- What an argument of a type looks like. -/
def ArgShape (P : Program) (H : Heap) (k : Nat) (t : TypeId) (a : AVal) : Prop :=
  match P.underlying t with
  | some (.struct _) => ∃ cs, a = .agg cs ∧ Shape P H k t cs
  | some (.array _ _) => ∃ cs, a = .agg cs ∧ Shape P H k t cs
  | _ => Shape P H k t [a]

theorem ArgShape.struct {P : Program} {H : Heap} {k : Nat} {t : TypeId} {a : AVal} {fs : Array Field} (hu : P.underlying t = some (.struct fs)) (h : ArgShape P H k t a) : ∃ cs, a = .agg cs ∧ Shape P H k t cs := by
  unfold ArgShape at h; rw [hu] at h; exact h
theorem ArgShape.slice {P : Program} {H : Heap} {k : Nat} {t : TypeId} {a : AVal} {e : TypeId} (hu : P.underlying t = some (.slice e)) (h : ArgShape P H k t a) : Shape P H k t [a] := by
  unfold ArgShape at h; rw [hu] at h; exact h
theorem ArgShape.int {P : Program} {H : Heap} {k : Nat} {t : TypeId} {a : AVal} {q : IntKind} (hu : P.underlying t = some (.int q)) (h : ArgShape P H (k + 1) t a) : ∃ n, a = .int q n ∧ (Lit.int q n).wf = true := by
  unfold ArgShape at h; rw [hu] at h
  obtain ⟨n, hn, hw⟩ := Shape.int hu h
  injection hn with hn _
  exact ⟨n, hn, hw⟩
theorem ArgShape.bool {P : Program} {H : Heap} {k : Nat} {t : TypeId} {a : AVal} (hu : P.underlying t = some .bool) (h : ArgShape P H (k + 1) t a) : ∃ b, a = .bool b := by
  unfold ArgShape at h; rw [hu] at h
  obtain ⟨n, hn⟩ := Shape.bool hu h
  injection hn with hn _
  exact ⟨n, hn⟩

def ArgShapes (P : Program) (H : Heap) (k : Nat) : List TypeId → List AVal → Prop
  | [], [] => True
  | t :: ts, a :: as => ArgShape P H k t a ∧ ArgShapes P H k ts as
  | _, _ => False

theorem ArgShape.mono {P : Program} {H : Heap} (G : Heap) {k : Nat} {t : TypeId} {a : AVal} (h : ArgShape P H k t a) : ArgShape P (H ++ G) k t a := by
  unfold ArgShape at h ⊢
  split at h
  · obtain ⟨cs, h1, h2⟩ := h; exact ⟨cs, h1, h2.mono G⟩
  · obtain ⟨cs, h1, h2⟩ := h; exact ⟨cs, h1, h2.mono G⟩
  · exact h.mono G

section
variable {D : Type} {enc : TypeId × Value → D} {P : Program} {W : World}

theorem open_arg {k : Nat} {t : TypeId} (hok : readOk P k t = true) {b : Nat} {v : Value} {d : DataW D} {ps : List MemPlace} (hv : Value.okWide P W .any b t v) (h : DataW.Trod enc P W 0 (fun _ => true) true t v d ps)
    {σ : Sig} {H : Heap} (hR : RelH (· < W.heap.size) σ H W) : ∃ σ' H' a, Opened W σ H σ' H' ∧ VR σ' H' a v ∧ ArgShape P H' k t a := by
  obtain ⟨fuel, h⟩ := h
  obtain ⟨σ', H', as, o, hvr, hs⟩ := opens k t hok fuel _ _ h σ H hR
  have one : (∀ cs, v ≠ .agg cs) → ∃ a, as = [a] ∧ VR σ' H' a v := by
    intro hn
    have hc : v.cells.toList = [v] := by
      unfold Value.cells
      split
      · rename_i cs; exact absurd rfl (hn cs)
      · rfl
    rw [hc] at hvr
    match as, hvr with
    | [a], hvr => exact ⟨a, rfl, (VRs_cons.1 hvr).1⟩
    | [], hvr => simp [VRs] at hvr
    | _ :: _ :: _, hvr => simp [VRs] at hvr
  unfold Value.okWide at hv
  unfold ArgShape
  split at hv
  · rename_i fs hu
    obtain ⟨cs, rfl, -, -⟩ := hv
    rw [hu]
    exact ⟨σ', H', .agg as, o, by simp only [VR]; exact ⟨List.all_eq_true.2 hs.cell, cs, rfl, hvr⟩, as, rfl, hs⟩
  · rename_i m e hu
    obtain ⟨cs, rfl, -, -⟩ := hv
    rw [hu]
    exact ⟨σ', H', .agg as, o, by simp only [VR]; exact ⟨List.all_eq_true.2 hs.cell, cs, rfl, hvr⟩, as, rfl, hs⟩
  · rename_i hn1 hn2
    have hna : ∀ cs, v ≠ .agg cs := by
      rintro cs rfl
      unfold readOk at hok
      cases k with
      | zero => cases hok
      | succ k =>
        simp only at hok
        split at hok
        · rename_i hu; obtain ⟨b, hb, -⟩ := DataW.trod_bool hu h; unfold Cell.okWide at hv; simp [hu, Cell.ok] at hv
        · rename_i q hu; unfold Cell.okWide at hv; simp [hu, Cell.ok] at hv
        · rename_i hu; unfold Cell.okWide at hv; simp [hu, Cell.ok] at hv
        · rename_i e hu; unfold Cell.okWide at hv; simp [hu, Cell.ok] at hv
        · rename_i fs hu; exact hn1 fs hu
        · rename_i m e hu; exact hn2 m e hu
        · cases hok
    obtain ⟨a, rfl, hva⟩ := one hna
    refine ⟨σ', H', a, o, hva, ?_⟩
    split
    · rename_i fs hu; exact absurd hu (hn1 fs)
    · rename_i m e hu; exact absurd hu (hn2 m e)
    · exact hs

theorem open_args {k : Nat} : ∀ {ts : List TypeId} {vs : List Value} {ds : List (DataW D)} {ps : List MemPlace} {b : Nat}, (ts.all fun t => readOk P k t) = true → (∀ (j : Nat) t v, ts[j]? = some t → vs[j]? = some v → Value.okWide P W .any b t v) →
    DataW.TrodAll enc P W 0 (fun _ => true) true ts vs ds ps → ∀ {σ : Sig} {H : Heap}, RelH (· < W.heap.size) σ H W → ∃ σ' H' as, Opened W σ H σ' H' ∧ VRs σ' H' as vs ∧ ArgShapes P H' k ts as
  | [], vs, ds, ps, b, _, _, h, σ, H, hR => by
    obtain ⟨rfl, rfl, rfl⟩ := trodAll_nil h
    exact ⟨σ, H, [], .refl hR, by simp, trivial⟩
  | t :: ts, vs, ds, ps, b, ht, hv, h, σ, H, hR => by
    simp only [List.all_cons, Bool.and_eq_true] at ht
    obtain ⟨v, vs1, d, ds1, p, q, rfl, rfl, rfl, h1, h2⟩ := trodAll_cons h
    obtain ⟨σ1, H1, a, o1, r1, s1⟩ := open_arg ht.1 (hv 0 t v rfl rfl) h1 hR
    obtain ⟨σ2, H2, as, o2, r2, s2⟩ := open_args ht.2 (fun j t v h1 h2 => hv (j + 1) t v (by simpa using h1) (by simpa using h2)) h2 o1.rel
    obtain ⟨G, rfl⟩ := o2.pre
    exact ⟨σ2, _, a :: as, o1.trans o2, VRs_cons.2 ⟨r1.grow o2.ext, r2⟩, s1.mono G, s2⟩

/-- A law that holds on the abstract machine, whatever the arguments, holds of the program's call. -/
theorem law_calls {f : FuncId} {k : Nat} {ts : List TypeId} (hlaw : ∀ H as, ArgShapes P H k ts as → ACalls P f as H fun v _ => v = .bool true) {args : Array Value} {ds gs : List (DataW D)} {before : List MemPlace} {b : Nat} {vars : List String} {apart : Bool}
    (hk : (ts.all fun t => readOk P k t) = true) (hv : ∀ (j : Nat) t v, ts[j]? = some t → args[j]? = some v → Value.okWide P W .any b t v) (hW : DataW.Whole enc P ts vars apart W args.toList ds gs before) :
    Calls P f args W fun e W' => e = .returned (.bool true) ∧ Below W.heap.size W W' := by
  obtain ⟨p, q, hA, -, -, -, -⟩ := hW
  obtain ⟨σ, H, as, o, r, s⟩ := open_args (σ := fun _ => ⟨0, 0, 0⟩) (H := []) hk (fun j t v h1 h2 => hv j t v h1 (by rw [← Array.getElem?_toList]; exact h2)) hA ⟨fun ho => by simp at ho, fun ho => by simp at ho, fun _ h => h⟩
  have := hlaw H as s (· < W.heap.size) σ W args.toList o.rel r
  rw [Array.toArray_toList] at this
  refine this.mono ?_
  rintro e W' ⟨x, σ', v, H1, rfl, rfl, -, hx, -, hb⟩
  simp only [VR] at hx
  subst hx
  exact ⟨rfl, hb.below⟩

end

end Go.Ax
