/- Functions that do what is asked of a state: what is said of them all alike. Conditions: none. -/
import Derived.Test.YtipigjckoejfpaaGreatSGiveZ
set_option linter.unusedSimpArgs false
set_option linter.unusedVariables false
namespace Go.Ax.M
open Go Go.Ax
def heavyM (s : State) (c : Call) : Bool := decide (100 < (s.slots.length : Int)) || (decide (50 < (s.things.length : Int)) || (decide (10 < (c.a.length : Int)) || decide (10 < (c.b.length : Int))))
/-- The end of a function that yields another state: its objects, i and j behind. -/
theorem Gc.stN {H L : Heap} {K : AVal → Heap → Prop} {r : Option State} {s' : State} {i j n m : Nat} {x0 x1 x2 : Int} {l : List AVal} (hi : L[i]? = some (slotsO s')) (hj : L[j]? = some (thingsO s'))
    (h : ∀ s', r = some s' → K (.tup (stV s' H.length (H.length + 1) false false :: l)) (H ++ [slotsO s', thingsO s'])) (hij : i ≠ j := by decide) (hl : ∀ a ∈ l, a.plain = true := by simp [AVal.plain, plains])
    (hn : n = s'.slots.length) (hm : m = s'.things.length) (hg : x0 = s'.geo.threads ∧ x1 = s'.geo.slots ∧ x2 = s'.geo.things := by exact ⟨rfl, rfl, rfl⟩) (e : r = some s') :
    Gc H K (.tup (.agg [.int .i64 x0, .int .i64 x1, .int .i64 x2, .slice (H.length + i) n 0 n false, .slice (H.length + j) m 0 m false] :: l)) (H ++ L) := by
  subst hn hm
  obtain ⟨rfl, rfl, rfl⟩ := hg
  exact Gc.stateT hi hj hij hl (h _ e)
end Go.Ax.M
namespace Go.Proofs.YtipigjckoejfpaaGreat.Ax
open Go Go.Ax Go.Ax.M
set_option linter.unusedVariables false
set_option linter.unusedSimpArgs false

/-- A function that does what is asked, as a mirror tells. -/
def DoSpec (f : FuncId) (D : State → Int → M.Call → Res) : Prop := ∀ {H : Heap} {K : AVal → Heap → Prop} {s : State} {th : Int} {c : M.Call} {oS oT oA oB : Nat} {fS fT rS rT fA fB rA rB : Bool},
  H[oS]? = some (.arr 5 (s.slots.map Slot.cells) rS) → H[oT]? = some (.arr 13 (s.things.map Thing.cells) rT) → H[oA]? = some (.arr 1 (ints c.a) rA) → H[oB]? = some (.arr 1 (ints c.b) rB) →
  ((D s th c).st = none → K (.tup [.agg [.int .i64 s.geo.threads, .int .i64 s.geo.slots, .int .i64 s.geo.things, .slice oS s.slots.length 0 s.slots.length fS, .slice oT s.things.length 0 s.things.length fT], (D s th c).reply]) H) → (∀ s', (D s th c).st = some s' → K (.tup [stV s' H.length (H.length + 1) false false, (D s th c).reply]) (H ++ [slotsO s', thingsO s'])) →
  ACalls Tryz.prog f [.agg [.int .i64 s.geo.threads, .int .i64 s.geo.slots, .int .i64 s.geo.things, .slice oS s.slots.length 0 s.slots.length fS, .slice oT s.things.length 0 s.things.length fT], .int .i64 th, .agg [.int .i64 c.op, .slice oA c.a.length 0 c.a.length fA, .slice oB c.b.length 0 c.b.length fB, .int .i64 c.x, .int .i64 c.y, .int .u64 c.w]] H K

section
variable {f : FuncId} {D : State → Int → M.Call → Res} {H : Heap} {K : AVal → Heap → Prop} {s : State} {th : Int} {c : M.Call} {oS oT oA oB : Nat} {fS fT rS rT fA fB rA rB : Bool}

theorem DoSpec.som (d : DoSpec f D) {e w n : Int} {s' : State} (hr : D s th c = ⟨e, w, n, some s'⟩) (hS : H[oS]? = some (.arr 5 (s.slots.map Slot.cells) rS)) (hT : H[oT]? = some (.arr 13 (s.things.map Thing.cells) rT)) (hA : H[oA]? = some (.arr 1 (ints c.a) rA)) (hB : H[oB]? = some (.arr 1 (ints c.b) rB))
    (h : K (.tup [stV s' H.length (H.length + 1) false false, .agg [.int .i64 e, .int .u64 w, .int .i64 n]]) (H ++ [slotsO s', thingsO s'])) : ACalls Tryz.prog f [.agg [.int .i64 s.geo.threads, .int .i64 s.geo.slots, .int .i64 s.geo.things, .slice oS s.slots.length 0 s.slots.length fS, .slice oT s.things.length 0 s.things.length fT], .int .i64 th, .agg [.int .i64 c.op, .slice oA c.a.length 0 c.a.length fA, .slice oB c.b.length 0 c.b.length fB, .int .i64 c.x, .int .i64 c.y, .int .u64 c.w]] H K :=
  d hS hT hA hB (by rw [hr]; intro h; cases h) (by rw [hr]; intro s2 h2; injection h2 with h2; subst h2; exact h)
theorem DoSpec.non (d : DoSpec f D) {e w n : Int} (hr : D s th c = ⟨e, w, n, none⟩) (hS : H[oS]? = some (.arr 5 (s.slots.map Slot.cells) rS)) (hT : H[oT]? = some (.arr 13 (s.things.map Thing.cells) rT)) (hA : H[oA]? = some (.arr 1 (ints c.a) rA)) (hB : H[oB]? = some (.arr 1 (ints c.b) rB))
    (h : K (.tup [.agg [.int .i64 s.geo.threads, .int .i64 s.geo.slots, .int .i64 s.geo.things, .slice oS s.slots.length 0 s.slots.length fS, .slice oT s.things.length 0 s.things.length fT], .agg [.int .i64 e, .int .u64 w, .int .i64 n]]) H) : ACalls Tryz.prog f [.agg [.int .i64 s.geo.threads, .int .i64 s.geo.slots, .int .i64 s.geo.things, .slice oS s.slots.length 0 s.slots.length fS, .slice oT s.things.length 0 s.things.length fT], .int .i64 th, .agg [.int .i64 c.op, .slice oA c.a.length 0 c.a.length fA, .slice oB c.b.length 0 c.b.length fB, .int .i64 c.x, .int .i64 c.y, .int .u64 c.w]] H K :=
  d hS hT hA hB (by rw [hr]; intro _; exact h) (by rw [hr]; intro s2 h2; cases h2)

/-- The same of a call without a second way. -/
theorem DoSpec.nil (d : DoSpec f D) {op x y w : Int} {a : List Int} (hS : H[oS]? = some (.arr 5 (s.slots.map Slot.cells) rS)) (hT : H[oT]? = some (.arr 13 (s.things.map Thing.cells) rT)) (hA : H[oA]? = some (.arr 1 (ints a) rA))
    (h : (D s th ⟨op, a, [], x, y, w⟩).st = none → K (.tup [.agg [.int .i64 s.geo.threads, .int .i64 s.geo.slots, .int .i64 s.geo.things, .slice oS s.slots.length 0 s.slots.length fS, .slice oT s.things.length 0 s.things.length fT], (D s th ⟨op, a, [], x, y, w⟩).reply]) H)
    (h' : ∀ s', (D s th ⟨op, a, [], x, y, w⟩).st = some s' → K (.tup [stV s' H.length (H.length + 1) false false, (D s th ⟨op, a, [], x, y, w⟩).reply]) (H ++ [slotsO s', thingsO s'])) :
    ACalls Tryz.prog f [.agg [.int .i64 s.geo.threads, .int .i64 s.geo.slots, .int .i64 s.geo.things, .slice oS s.slots.length 0 s.slots.length fS, .slice oT s.things.length 0 s.things.length fT], .int .i64 th, .agg [.int .i64 op, .slice oA a.length 0 a.length fA, .lit (.slice none 0 0), .int .i64 x, .int .i64 y, .int .u64 w]] H K := by
  refine ACalls.gc (ACalls.lay 1 ?_)
  simp only [Go.Ax.fillN, Go.Ax.fill1, go_sem]
  have kS := Keeps.of hS
  have kT := Keeps.of hT
  have kA := Keeps.of hA
  refine d (c := ⟨op, a, [], x, y, w⟩) (oB := H.length) (rB := false) (kS _) (kT _) (kA _) at0 (fun e => Gc.old ?_ (h e)) (fun s' e => ?_)
  · simp only [Res.reply, AVal.refs, refsL]
    exact ⟨⟨trivial, trivial, trivial, get_lt hS, get_lt hT, trivial⟩, ⟨trivial, trivial, trivial, trivial⟩, trivial⟩
  · have := Gc.stateT (H := H) (L := .arr 1 [] false :: [slotsO s', thingsO s']) (K := K) (i := 1) (j := 2) (s := s') (f := false) (f' := false) (l := [(D s th ⟨op, a, [], x, y, w⟩).reply]) rfl rfl (by decide) (by simp [AVal.plain, plains, Res.reply]) (h' s' e)
    simpa [List.append_assoc, Nat.add_assoc] using this
end
end Go.Proofs.YtipigjckoejfpaaGreat.Ax
