/- The law of all that is emptied, walked. Conditions: none. -/
import Derived.Test.YtipigjckoejfpaaGreatLTakeZ
import Derived.Test.YtipigjckoejfpaaGreatSTakeEZ
import Derived.Test.YtipigjckoejfpaaGreatZPu
set_option linter.unusedSimpArgs false
set_option linter.unusedVariables false
namespace Go.Ax.M
open Go Go.Ax
def upto (k : Nat) : List Int := (List.range k).map fun (i : Nat) => (i : Int)
theorem upto_succ {k : Nat} : upto (k + 1) = upto k ++ [(k : Int)] := by simp [upto, List.range_succ]
theorem upto_length {k : Nat} : (upto k).length = k := by simp [upto]
end Go.Ax.M
namespace Go.Proofs.YtipigjckoejfpaaGreat.Ax
open Go Go.Ax Go.Ax.M
set_option linter.unusedSimpArgs false
set_option linter.unusedVariables false
set_option maxRecDepth 100000

theorem takeAll_law (H : Heap) (bs : List AVal) (h : ArgShapes Tryz.prog H 8 [27] bs) : ACalls Tryz.prog 13 bs H fun v _ => v = .bool true := by
  obtain ⟨a1, l, rfl, h1, h⟩ := argShapes_cons h
  obtain rfl := argShapes_nil h
  obtain ⟨s, oS, oT, rfl, hS, hT⟩ := arg_state h1
  clear h1 h
  have kS := Keeps.of hS
  have kT := Keeps.of hT
  refine ACalls.into ok13 (Nat.le_of_ble_eq_true rfl) ?_; (try simp only [c13, wpx_of k13_0.eq_1, wpx_of k13_1.eq_1, wpx_of k13_2.eq_1, wpx_of k13_3.eq_1, wpx_of k13_4.eq_1, wpx_of k13_6.eq_1, wpx_of k13_7.eq_1, wpx_of k13_8.eq_1, wpx_of k13_10.eq_1, wpx_of k13_11.eq_1, wpx_of k13_12.eq_1, wpx_of k13_14.eq_1, wpx_of k13_15.eq_1, wpx_of k13_16.eq_1, wpx_of k13_17.eq_1, wpx_of k13_18.eq_1, wpx_of k13_19.eq_1, wpx_of k13_20.eq_1, wpx_of k13_21.eq_1, wpx_of k13_22.eq_1, kS, kT, stV, slotsO, thingsO, Nat.add_assoc, go_sem]); repeat' ((first
    | refine And.intro (Or.inr rfl) ?_
    | ((first | refine cB ?_ ?_ | refine gT ?_ ?_ | refine gF ?_ ?_ | refine dT ?_ ?_ | refine dF ?_ ?_) <;> intro hc)
    | refine awake17_spec ?_
    | refine state_Good_spec (kS _) (kT _) ?_) <;> try simp only [*, wpx_of k13_0.eq_1, wpx_of k13_1.eq_1, wpx_of k13_2.eq_1, wpx_of k13_3.eq_1, wpx_of k13_4.eq_1, wpx_of k13_6.eq_1, wpx_of k13_7.eq_1, wpx_of k13_8.eq_1, wpx_of k13_10.eq_1, wpx_of k13_11.eq_1, wpx_of k13_12.eq_1, wpx_of k13_14.eq_1, wpx_of k13_15.eq_1, wpx_of k13_16.eq_1, wpx_of k13_17.eq_1, wpx_of k13_18.eq_1, wpx_of k13_19.eq_1, wpx_of k13_20.eq_1, wpx_of k13_21.eq_1, wpx_of k13_22.eq_1, kS, kT, stV, slotsO, thingsO, Nat.add_assoc, go_sem])
  have hg : sGood s = true := by assumption
  have hl1 : s.slots.length ≤ 100 := by omega
  have hl2 : s.things.length ≤ 50 := by omega
  have inv := inv_iff.1 hg
  have hlS := lS_of hg
  have hlT := lT_of hg
  obtain ⟨u, hTE, hu1, hu2, invu, hu3, hu4⟩ := take_all inv
  refine ALoop.keep [3, 4, 5, 1] ?_; simp only [List.map_cons, List.map_nil, go_sem]
  refine ALoop.lay 1 ?_
  simp only [go_sem]
  refine ALoop.acc (fun k G => [(3, .slice (H.length + 1) (upto k).length 0 (upto k).length false), (4, .int .i64 (fulls s k : Int)), (5, .int .i64 (k : Int))]) (fun k G => H ++ _ :: .arr 1 (ints (upto k)) false :: G) (fun k G => True) s.slots.length ?_ (a0 := []) trivial
  intro k G hk _ next
  refine ALoop.hid fun W hW => ?_
  have kS1 := kS.ex hW.ex
  have kT1 := kT.ex hW.ex
  have kst := hW.keep0
  have ko := hW.keep1
  have kst0 := kst.at
  have ko0 := ko.at
  have kos := ko.set
  have kS0 := kS1.at
  have kT0 := kT1.at
  have fst := kst.other (i := H.length + 1) (by omega)
  have fS := kS1.other (i := H.length + 1) (by have := get_lt hS; omega)
  have hA : Hid ((upto k).length = k) := upto_length
  have hb : ((upto k).length + 1) * 8 ≤ 140737488355328 := by rw [upto_length]; omega
  have hfl : fulls s k ≤ k := by
    simp only [fulls]
    refine Nat.le_trans List.countP_le_length ?_
    simp
  have hwf := wrap_succ (k := fulls s k) (by omega)
  have hw := wrap_succ (k := k) (by omega)
  have hgs : k < s.slots.length → _ := fun h => slots_get (s := s) (k := k) h
  have hfs := fulls_succ (s := s) (k := k)
  have hus := upto_succ (k := k)
  have hTK : ¬ k < s.slots.length → takeE s (upto k) = (u, (fulls s k : Int)) := fun h => by rw [show k = s.slots.length by omega]; exact hTE
  have huT : ((u.things.length : Int) = (s.things.length : Int)) = True := eq_true (by rw [hu2])
  have huS : ((u.slots.length : Int) = (s.slots.length : Int)) = True := eq_true (by rw [hu1])
  have hu1' : Hid (u.slots.length = s.slots.length) := hu1
  have hu2' : Hid (u.things.length = s.things.length) := hu2
  clear hu1 hu2
  refine ALoop.unfold ?_
  generalize upto k = A at *
  generalize fulls s k = f at *
  (try simp only [wpx_of k13_0.eq_1, wpx_of k13_1.eq_1, wpx_of k13_2.eq_1, wpx_of k13_3.eq_1, wpx_of k13_4.eq_1, wpx_of k13_6.eq_1, wpx_of k13_7.eq_1, wpx_of k13_8.eq_1, wpx_of k13_10.eq_1, wpx_of k13_11.eq_1, wpx_of k13_12.eq_1, wpx_of k13_14.eq_1, wpx_of k13_15.eq_1, wpx_of k13_16.eq_1, wpx_of k13_17.eq_1, wpx_of k13_18.eq_1, wpx_of k13_19.eq_1, wpx_of k13_20.eq_1, wpx_of k13_21.eq_1, wpx_of k13_22.eq_1, kS1, kT1, kst, kst0, ko, ko0, fst, fS, hTK, huT, stV, slotsO, thingsO, Nat.add_assoc, hgs, hw, hwf, kos, wpx_of b13_5.eq_1, nlt_iff, n0_le, List.cons_append, List.nil_append, go_sem]); repeat' ((first
    | refine And.intro (Or.inr rfl) ?_
    | ((first | refine cB ?_ ?_ | refine gT ?_ ?_ | refine gF ?_ ?_ | refine dT ?_ ?_ | refine dF ?_ ?_) <;> intro hc)
    | refine cap_None_x ?_
    | refine take_Empty_spec (s := s) (l := A) ko0 kS0 kT0 hg (by have hA : A.length = k := hA; omega) ?_) <;> try simp only [*, wpx_of k13_0.eq_1, wpx_of k13_1.eq_1, wpx_of k13_2.eq_1, wpx_of k13_3.eq_1, wpx_of k13_4.eq_1, wpx_of k13_6.eq_1, wpx_of k13_7.eq_1, wpx_of k13_8.eq_1, wpx_of k13_10.eq_1, wpx_of k13_11.eq_1, wpx_of k13_12.eq_1, wpx_of k13_14.eq_1, wpx_of k13_15.eq_1, wpx_of k13_16.eq_1, wpx_of k13_17.eq_1, wpx_of k13_18.eq_1, wpx_of k13_19.eq_1, wpx_of k13_20.eq_1, wpx_of k13_21.eq_1, wpx_of k13_22.eq_1, kS1, kT1, kst, kst0, ko, ko0, fst, fS, hTK, huT, stV, slotsO, thingsO, Nat.add_assoc, hgs, hw, hwf, kos, wpx_of b13_5.eq_1, nlt_iff, n0_le, List.cons_append, List.nil_append, go_sem])
  case refine_1.refine_1.refine_2.refine_1.refine_1 =>
    have e : fulls s (k + 1) = f + 1 := by rw [hfs, show cNone (s.slot k).cap = false by assumption]; rfl
    have hW : W = _ := hW
    subst hW
    simp only [e, hus, ints_append, ints_cons, ints_nil, List.length_append, List.length_cons, List.length_nil, go_sem] at next ⊢
    (refine ALoop.keep [3, 4, 5, 1] ?_; simp only [List.map_cons, List.map_nil, go_sem]; refine next _ (by assumption))
  case refine_1.refine_1.refine_2.refine_1.refine_2 =>
    have e : fulls s (k + 1) = f := by rw [hfs, show cNone (s.slot k).cap = true by assumption]; rfl
    have hW : W = _ := hW
    subst hW
    simp only [e, hus, ints_append, ints_cons, ints_nil, List.length_append, List.length_cons, List.length_nil, go_sem] at next ⊢
    (refine ALoop.keep [3, 4, 5, 1] ?_; simp only [List.map_cons, List.map_nil, go_sem]; refine next _ (by assumption))
  have hgu : sGood u = true := invu.ok.good
  clear next hTK hTE hfs hus hwf hw hgs kos
  have kst2 := fun L => kst.app L
  refine ALoop.keep [8, 1, 6] ?_; simp only [List.map_cons, List.map_nil, go_sem]
  have hu1 : u.slots.length = s.slots.length := hu1'
  have hu2 : u.things.length = s.things.length := hu2'
  have hub : ∀ i, i < u.slots.length → (u.slots.map Slot.cells)[i]? = some [.int .i64 0, .int .i64 0, .int .i64 0, .int .i64 0, .int .i64 (-1)] := fun i h => by
    have := slots_get (s := u) (k := i) h
    rw [hu3 i (by omega)] at this; exact this
  have hgeo : 0 ≤ s.geo.threads ∧ s.geo.threads ≤ 1000 := by
    have := inv.geo
    simp [gGood, inB] at this; omega
  have hlu : u.slots.length ≤ 100 ∧ u.things.length ≤ 50 := by omega
  clear hu1 hu2 hu3 hA hb hfl
  refine ALoop.cnt (fun i => True) u.slots.length trivial fun i hi _ next => ?_
  refine ALoop.unfold ?_
  have hw := wrap_succ (k := i) (by omega)
  have hub := hub i
  (try simp only [wpx_of k13_0.eq_1, wpx_of k13_1.eq_1, wpx_of k13_2.eq_1, wpx_of k13_3.eq_1, wpx_of k13_4.eq_1, wpx_of k13_6.eq_1, wpx_of k13_7.eq_1, wpx_of k13_8.eq_1, wpx_of k13_10.eq_1, wpx_of k13_11.eq_1, wpx_of k13_12.eq_1, wpx_of k13_14.eq_1, wpx_of k13_15.eq_1, wpx_of k13_16.eq_1, wpx_of k13_17.eq_1, wpx_of k13_18.eq_1, wpx_of k13_19.eq_1, wpx_of k13_20.eq_1, wpx_of k13_21.eq_1, wpx_of k13_22.eq_1, hw, hub, kst, wpx_of b13_9.eq_1, nlt_iff, n0_le, Nat.add_assoc, List.cons_append, List.nil_append, go_sem]); repeat' ((first
    | refine And.intro (Or.inr rfl) ?_
    | ((first | refine cB ?_ ?_ | refine gT ?_ ?_ | refine gF ?_ ?_ | refine dT ?_ ?_ | refine dF ?_ ?_) <;> intro hc)) <;> try simp only [*, wpx_of k13_0.eq_1, wpx_of k13_1.eq_1, wpx_of k13_2.eq_1, wpx_of k13_3.eq_1, wpx_of k13_4.eq_1, wpx_of k13_6.eq_1, wpx_of k13_7.eq_1, wpx_of k13_8.eq_1, wpx_of k13_10.eq_1, wpx_of k13_11.eq_1, wpx_of k13_12.eq_1, wpx_of k13_14.eq_1, wpx_of k13_15.eq_1, wpx_of k13_16.eq_1, wpx_of k13_17.eq_1, wpx_of k13_18.eq_1, wpx_of k13_19.eq_1, wpx_of k13_20.eq_1, wpx_of k13_21.eq_1, wpx_of k13_22.eq_1, hw, hub, kst, wpx_of b13_9.eq_1, nlt_iff, n0_le, Nat.add_assoc, List.cons_append, List.nil_append, go_sem])
  case refine_1.refine_1.refine_2.refine_2.refine_1 => (refine ALoop.keep [8, 1, 6] ?_; simp only [List.map_cons, List.map_nil, go_sem]; refine next (by assumption) trivial)
  clear hub hw next
  refine ALoop.keep [9, 1, 6] ?_; simp only [List.map_cons, List.map_nil, go_sem]
  refine ALoop.cnt (fun i => True) u.things.length trivial fun j hj _ next => ?_
  refine ALoop.unfold ?_
  have hw := wrap_succ (k := j) (by omega)
  have hut : j < u.things.length → _ := fun h => things_get (s := u) (k := j) h
  have hwt : IntKind.wrap .i64 (2 + s.geo.threads) = 2 + s.geo.threads := w64 (by omega) (by omega)
  have hu5 : j < u.things.length → decide ((u.thing j).ty = 0) = !rootB s j := fun h => hu4 j (by have : u.things.length = s.things.length := hu2'; omega)
  clear hu4
  (try simp only [wpx_of k13_0.eq_1, wpx_of k13_1.eq_1, wpx_of k13_2.eq_1, wpx_of k13_3.eq_1, wpx_of k13_4.eq_1, wpx_of k13_6.eq_1, wpx_of k13_7.eq_1, wpx_of k13_8.eq_1, wpx_of k13_10.eq_1, wpx_of k13_11.eq_1, wpx_of k13_12.eq_1, wpx_of k13_14.eq_1, wpx_of k13_15.eq_1, wpx_of k13_16.eq_1, wpx_of k13_17.eq_1, wpx_of k13_18.eq_1, wpx_of k13_19.eq_1, wpx_of k13_20.eq_1, wpx_of k13_21.eq_1, wpx_of k13_22.eq_1, hw, hut, hwt, kst, wpx_of b13_13.eq_1, nlt_iff, n0_le, Nat.add_assoc, List.cons_append, List.nil_append, go_sem]); repeat' ((first
    | refine And.intro (Or.inr rfl) ?_
    | ((first | refine cB ?_ ?_ | refine gT ?_ ?_ | refine gF ?_ ?_ | refine dT ?_ ?_ | refine dF ?_ ?_) <;> intro hc)
    | refine state_Good_spec (by first | exact at0 | exact at1 | exact at2 | exact at3 | exact at4 | exact at5 | exact at6 | exact at7 | exact at8 | exact at9 | exact at10 | exact at11 | exact at12 | exact at13 | exact at14 | exact at15 | exact at16 | exact atX rfl) (by first | exact at0 | exact at1 | exact at2 | exact at3 | exact at4 | exact at5 | exact at6 | exact at7 | exact at8 | exact at9 | exact at10 | exact at11 | exact at12 | exact at13 | exact at14 | exact at15 | exact at16 | exact atX rfl) ?_) <;> try simp only [*, wpx_of k13_0.eq_1, wpx_of k13_1.eq_1, wpx_of k13_2.eq_1, wpx_of k13_3.eq_1, wpx_of k13_4.eq_1, wpx_of k13_6.eq_1, wpx_of k13_7.eq_1, wpx_of k13_8.eq_1, wpx_of k13_10.eq_1, wpx_of k13_11.eq_1, wpx_of k13_12.eq_1, wpx_of k13_14.eq_1, wpx_of k13_15.eq_1, wpx_of k13_16.eq_1, wpx_of k13_17.eq_1, wpx_of k13_18.eq_1, wpx_of k13_19.eq_1, wpx_of k13_20.eq_1, wpx_of k13_21.eq_1, wpx_of k13_22.eq_1, hw, hut, hwt, kst, wpx_of b13_13.eq_1, nlt_iff, n0_le, Nat.add_assoc, List.cons_append, List.nil_append, go_sem])
  all_goals first | (refine ALoop.keep [9, 1, 6] ?_; simp only [List.map_cons, List.map_nil, go_sem]; refine next (by assumption) trivial) | (exfalso; apply (show ¬ (!!rootB s j) = _ by assumption); simp only [rootB, Bool.not_not]; simp [*]; done)
end Go.Proofs.YtipigjckoejfpaaGreat.Ax
