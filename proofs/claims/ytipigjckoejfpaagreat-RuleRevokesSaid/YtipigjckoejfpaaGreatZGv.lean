/- Texts put behind one another: SGive, SDo, SForest2. Conditions: none. -/
import Derived.Test.YtipigjckoejfpaaGreatZFi
import Derived.Test.YtipigjckoejfpaaGreatZMo
import Derived.Test.YtipigjckoejfpaaGreatZC2
import Derived.Test.YtipigjckoejfpaaGreatZSt
import Derived.Test.YtipigjckoejfpaaGreatZPu
set_option linter.unusedSimpArgs false
set_option linter.unusedVariables false
/- Copies and moves: what the program's functions answer. Conditions: none. -/
namespace Go.Proofs.YtipigjckoejfpaaGreat.Ax
open Go Go.Ax Go.Ax.M
section
variable {H : Heap} {K : AVal → Heap → Prop} {s : State} {oS oT : Nat} {fS fT rS rT : Bool}

theorem lS0_of {s : State} (h : sGood s = true) : 0 < s.slots.length := by have := (stOk_of h).lS; omega
theorem lT0_of {s : State} (h : sGood s = true) : 0 < s.things.length := by have := (stOk_of h).lT; omega

end
end Go.Proofs.YtipigjckoejfpaaGreat.Ax

/- Functions that do what is asked of a state: what is said of them all alike. Conditions: none. -/
namespace Go.Ax.M
open Go Go.Ax
def heavyM (s : State) (c : Call) : Bool := decide (100 < (s.slots.length : Int)) || (decide (50 < (s.things.length : Int)) || (decide (10 < (c.a.length : Int)) || decide (10 < (c.b.length : Int))))
theorem Gc.stN {H L : Heap} {K : AVal → Heap → Prop} {r : Option State} {s' : State} {i j n m : Nat} {x0 x1 x2 : Int} {l : List AVal} (hi : L[i]? = some (slotsO s')) (hj : L[j]? = some (thingsO s'))
    (h : ∀ s', r = some s' → K (.tup (stV s' H.length (H.length + 1) false false :: l)) (H ++ [slotsO s', thingsO s'])) (hij : i ≠ j := by decide) (hl : ∀ a ∈ l, a.plain = true := by simp [AVal.plain, plains])
    (hn : n = s'.slots.length) (hm : m = s'.things.length) (hg : x0 = s'.geo.threads ∧ x1 = s'.geo.slots ∧ x2 = s'.geo.things := by exact ⟨rfl, rfl, rfl⟩) (e : r = some s') :
    Gc H K (.tup (.agg [.int .i64 x0, .int .i64 x1, .int .i64 x2, .slice (H.length + i) n 0 n false, .slice (H.length + j) m 0 m false] :: l)) (H ++ L) := by
  subst hn hm
  obtain ⟨rfl, rfl, rfl⟩ := hg
  exact Gc.stateT hi hj hij hl (h _ e)
end Go.Ax.M
namespace Go.Proofs.YtipigjckoejfpaaGreat.Ax
open Go Go.Ax Go.Ax.M

def DoSpec (f : FuncId) (D : State → Int → M.Call → Res) : Prop := ∀ {H : Heap} {K : AVal → Heap → Prop} {s : State} {th : Int} {c : M.Call} {oS oT oA oB : Nat} {fS fT rS rT fA fB rA rB : Bool},
  H[oS]? = some (.arr 5 (s.slots.map Slot.cells) rS) → H[oT]? = some (.arr 13 (s.things.map Thing.cells) rT) → H[oA]? = some (.arr 1 (ints c.a) rA) → H[oB]? = some (.arr 1 (ints c.b) rB) →
  ((D s th c).st = none → K (.tup [.agg [.int .i64 s.geo.threads, .int .i64 s.geo.slots, .int .i64 s.geo.things, .slice oS s.slots.length 0 s.slots.length fS, .slice oT s.things.length 0 s.things.length fT], (D s th c).reply]) H) → (∀ s', (D s th c).st = some s' → K (.tup [stV s' H.length (H.length + 1) false false, (D s th c).reply]) (H ++ [slotsO s', thingsO s'])) →
  ACalls Tryz.prog f [.agg [.int .i64 s.geo.threads, .int .i64 s.geo.slots, .int .i64 s.geo.things, .slice oS s.slots.length 0 s.slots.length fS, .slice oT s.things.length 0 s.things.length fT], .int .i64 th, .agg [.int .i64 c.op, .slice oA c.a.length 0 c.a.length fA, .slice oB c.b.length 0 c.b.length fB, .int .i64 c.x, .int .i64 c.y, .int .u64 c.w]] H K

section
variable {f : FuncId} {D : State → Int → M.Call → Res} {H : Heap} {K : AVal → Heap → Prop} {s : State} {th : Int} {c : M.Call} {oS oT oA oB : Nat} {fS fT rS rT fA fB rA rB : Bool}

theorem DoSpec.non (d : DoSpec f D) {e w n : Int} (hr : D s th c = ⟨e, w, n, none⟩) (hS : H[oS]? = some (.arr 5 (s.slots.map Slot.cells) rS)) (hT : H[oT]? = some (.arr 13 (s.things.map Thing.cells) rT)) (hA : H[oA]? = some (.arr 1 (ints c.a) rA)) (hB : H[oB]? = some (.arr 1 (ints c.b) rB))
    (h : K (.tup [.agg [.int .i64 s.geo.threads, .int .i64 s.geo.slots, .int .i64 s.geo.things, .slice oS s.slots.length 0 s.slots.length fS, .slice oT s.things.length 0 s.things.length fT], .agg [.int .i64 e, .int .u64 w, .int .i64 n]]) H) : ACalls Tryz.prog f [.agg [.int .i64 s.geo.threads, .int .i64 s.geo.slots, .int .i64 s.geo.things, .slice oS s.slots.length 0 s.slots.length fS, .slice oT s.things.length 0 s.things.length fT], .int .i64 th, .agg [.int .i64 c.op, .slice oA c.a.length 0 c.a.length fA, .slice oB c.b.length 0 c.b.length fB, .int .i64 c.x, .int .i64 c.y, .int .u64 c.w]] H K :=
  d hS hT hA hB (by rw [hr]; intro _; exact h) (by rw [hr]; intro s2 h2; cases h2)

theorem DoSpec.nil (d : DoSpec f D) {op x y w : Int} {a : List Int} (hS : H[oS]? = some (.arr 5 (s.slots.map Slot.cells) rS)) (hT : H[oT]? = some (.arr 13 (s.things.map Thing.cells) rT)) (hA : H[oA]? = some (.arr 1 (ints a) rA))
    (h : (D s th ⟨op, a, [], x, y, w⟩).st = none → K (.tup [.agg [.int .i64 s.geo.threads, .int .i64 s.geo.slots, .int .i64 s.geo.things, .slice oS s.slots.length 0 s.slots.length fS, .slice oT s.things.length 0 s.things.length fT], (D s th ⟨op, a, [], x, y, w⟩).reply]) H)
    (h' : ∀ s', (D s th ⟨op, a, [], x, y, w⟩).st = some s' → K (.tup [stV s' H.length (H.length + 1) false false, (D s th ⟨op, a, [], x, y, w⟩).reply]) (H ++ [slotsO s', thingsO s'])) :
    ACalls Tryz.prog f [.agg [.int .i64 s.geo.threads, .int .i64 s.geo.slots, .int .i64 s.geo.things, .slice oS s.slots.length 0 s.slots.length fS, .slice oT s.things.length 0 s.things.length fT], .int .i64 th, .agg [.int .i64 op, .slice oA a.length 0 a.length fA, .lit (.slice none 0 0), .int .i64 x, .int .i64 y, .int .u64 w]] H K := by
  refine ACalls.gc (ACalls.lay 1 ?_)
  simp only [Go.Ax.fillN, Go.Ax.fill1, go_sem]
  have kS := Keeps.of hS
  have kT := Keeps.of hT
  have kA := Keeps.of hA
  refine d (c := ⟨op, a, [], x, y, w⟩) (oB := H.length) (rB := false) (kS _) (kT _) (kA _) at0 (fun e => Gc.old ?_ (h e)) (fun s' e => ?_)
  · simp only [Res.reply, AVal.refs, refsL]
    exact ⟨⟨trivial, trivial, trivial, get_lt hS, get_lt hT, trivial⟩, ⟨trivial, trivial, trivial, trivial⟩, trivial⟩
  · have := Gc.stateT (H := H) (L := .arr 1 [] false :: [slotsO s', thingsO s']) (K := K) (i := 1) (j := 2) (s := s') (f := false) (f' := false) (l := [(D s th ⟨op, a, [], x, y, w⟩).reply]) rfl rfl (by decide) (by simp [AVal.plain, plains, Res.reply]) (h' s' e)
    simpa [List.append_assoc, Nat.add_assoc] using this
end
end Go.Proofs.YtipigjckoejfpaaGreat.Ax

/- What came of what: what the program's functions answer, on. Conditions: none. -/
namespace Go.Ax
end Go.Ax
namespace Go.Proofs.YtipigjckoejfpaaGreat.Ax
open Go Go.Ax Go.Ax.M
section
variable {H : Heap} {K : AVal → Heap → Prop} {up : List Int} {o : Nat} {fl ro : Bool}

theorem forest_may_spec {i : Int} (ho : H[o]? = some (.arr 1 (ints up) ro)) (h : K (.bool (fMay up i)) H) : ACalls Tryz.prog 214 [.agg [.slice o up.length 0 up.length fl], .int .i64 i] H K := by
  have k1 := Keeps.of ho
  refine ACalls.tidy ?_
  refine ACalls.into ok214 (Nat.le_of_ble_eq_true rfl) ?_; (try simp only [c214, wpx_of k214_0.eq_1, go_sem]); repeat' ((first
    | refine And.intro (Or.inr rfl) ?_
    | ((first | refine cB ?_ ?_ | refine gT ?_ ?_ | refine gF ?_ ?_ | refine dT ?_ ?_ | refine dF ?_ ?_) <;> intro hc)
    | refine forest_Good_spec (k1 _) ?_
    | refine forest_is_spec (k1 _) ?_) <;> try simp only [*, wpx_of k214_0.eq_1, go_sem])
  all_goals (refine tb h (by first | exact ⟨_, rfl⟩ | exact ⟨[], (List.append_nil _).symm⟩ | exact hx | exact hx.app _) ?_; first | (simp only [fMay, *, cond_true, cond_false, Bool.and_true, Bool.true_and, Bool.and_false, Bool.false_and, Bool.or_true, Bool.true_or, Bool.or_false, Bool.false_or, Bool.not_true, Bool.not_false, decide_true, decide_false, go_sem]; done) | (simp_all [fMay]; done) | (simp_all [fMay]; omega) | grind [fMay])

theorem forest_of_spec {i : Int} (ho : H[o]? = some (.arr 1 (ints up) ro)) (hlen : up.length ≤ 1000) (h : K (.slice H.length (fOf up i).length 0 (fOf up i).length false) (H ++ [.arr 1 (ints (fOf up i)) false])) : ACalls Tryz.prog 222 [.agg [.slice o up.length 0 up.length fl], .int .i64 i] H K := by
  have k1 := Keeps.of ho
  refine ACalls.gc ?_
  obtain ⟨p, hp⟩ : ∃ p : Nat → Bool, ∀ k, p k = decide (up.getD k 0 = i) := ⟨fun k => decide (up.getD k 0 = i), fun _ => rfl⟩
  have hfo : fOf up i = pick p up.length := by simp only [fOf]; congr 1; funext k; exact (hp k).symm
  rw [hfo] at h
  refine ACalls.into ok222 (Nat.le_of_ble_eq_true rfl) ?_; (try simp only [c222, wpx_of k222_0.eq_1, wpx_of k222_1.eq_1, wpx_of k222_2.eq_1, wpx_of k222_4.eq_1, k1, go_sem]); repeat' ((first
    | refine And.intro (Or.inr rfl) ?_
    | ((first | refine cB ?_ ?_ | refine gT ?_ ?_ | refine gF ?_ ?_ | refine dT ?_ ?_ | refine dF ?_ ?_) <;> intro hc)) <;> try simp only [*, wpx_of k222_0.eq_1, wpx_of k222_1.eq_1, wpx_of k222_2.eq_1, wpx_of k222_4.eq_1, k1, go_sem])
  refine ALoop.keep [5, 11, 1, 9, 10] ?_; simp only [List.map_cons, List.map_nil, go_sem]
  refine ALoop.lay 1 ?_
  simp only [go_sem]
  refine ALoop.acc (fun k G => [(5, .slice (H.length + 1) (pick p k).length 0 (pick p k).length false), (11, .int .i64 (k : Int))]) (fun k G => H ++ _ :: .arr 1 (ints (pick p k)) false :: G) (fun k G => True) up.length ?_ (a0 := []) trivial
  intro k G hk _ next
  refine ALoop.hid fun W hW => ?_
  have k1 := k1.ex hW.ex
  have kst := hW.keep0
  have ko := hW.keep1
  have k10 := k1.at
  have kst0 := kst.at
  have ko0 := ko.at
  have kos := ko.set
  have hb : ((pick p k).length + 1) * 8 ≤ 140737488355328 := by have := pick_length (p := p) (k := k); omega
  refine ALoop.unfold ?_
  have hw := wrap_succ (k := k) (by omega)
  have hg : k < up.length → _ := fun h => ints_get (l := up) (k := k) h
  clear hfo
  (try simp only [wpx_of k222_0.eq_1, wpx_of k222_1.eq_1, wpx_of k222_2.eq_1, wpx_of k222_4.eq_1, hg, hw, kos, wpx_of b222_3.eq_1, nlt_iff, n0_le, List.cons_append, List.nil_append, go_sem]); repeat' ((first
    | refine And.intro (Or.inr rfl) ?_
    | ((first | refine cB ?_ ?_ | refine gT ?_ ?_ | refine gF ?_ ?_ | refine dT ?_ ?_ | refine dF ?_ ?_) <;> intro hc)) <;> try simp only [*, wpx_of k222_0.eq_1, wpx_of k222_1.eq_1, wpx_of k222_2.eq_1, wpx_of k222_4.eq_1, hg, hw, kos, wpx_of b222_3.eq_1, nlt_iff, n0_le, List.cons_append, List.nil_append, go_sem])
  case' refine_2 =>
    have hk' : k = up.length := by omega
    have hW : W = _ := hW
    subst hk' hW
    exact Gc.slice (i := 1) rfl ints_plain h
  case' refine_1.refine_1 => have e := pick_t (p := p) (k := k) (by rw [hp]; exact decide_eq_true (by assumption))
  case' refine_1.refine_2 => have e := pick_f (p := p) (k := k) (by rw [hp]; exact decide_eq_false (by assumption))
  all_goals
    have hW : W = _ := hW
    subst hW
    simp only [e, ints_append, ints_cons, go_sem] at next
    (refine ALoop.keep [5, 11, 1, 9, 10] ?_; simp only [List.map_cons, List.map_nil, go_sem]; refine next _ (by assumption))

end
end Go.Proofs.YtipigjckoejfpaaGreat.Ax
