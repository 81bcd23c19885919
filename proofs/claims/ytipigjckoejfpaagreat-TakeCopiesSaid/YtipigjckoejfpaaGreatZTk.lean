/- Texts put behind one another: STake, STake2, STake3, STake4, SSort. Conditions: none. -/
import Derived.Test.YtipigjckoejfpaaGreatZGv
import Derived.Test.YtipigjckoejfpaaGreatZPu
import Derived.Test.YtipigjckoejfpaaGreatSLawB17Z
set_option linter.unusedSimpArgs false
set_option linter.unusedVariables false
/- Emptied, and taken away: what the program's functions answer. Conditions: none. -/
namespace Go.Ax
theorem Keeps.other0 {W : Heap} {o i : Nat} {x : AObj} (h : Keeps W o x) (ne : i ≠ o) (y : AObj) : (W.set i y)[o]? = some x := by
  have := h.other ne y []
  rw [List.append_nil] at this; exact this
end Go.Ax
namespace Go.Ax.M
open Go Go.Ax
def turned {α : Type} (f : α → α) (l : List α) (k : Nat) : List α := (l.take k).map f ++ l.drop k
section
variable {α : Type} {f : α → α} {l : List α} {k : Nat}
theorem turned_zero : turned f l 0 = l := by simp [turned]
theorem turned_all : turned f l l.length = l.map f := by simp [turned]
theorem turned_length : (turned f l k).length = l.length := by simp [turned]; omega
theorem turned_get {j : Nat} (hj : j < l.length) : (turned f l k)[j]? = some (if j < k then f l[j] else l[j]) := by
  simp only [turned]
  by_cases h : j < k
  · rw [List.getElem?_append_left (by simp; omega)]; simp [h, hj]
  · rw [List.getElem?_append_right (by simp; omega)]; simp [h]
    rw [List.getElem?_eq_getElem (by omega)]; congr 1; congr 1; omega
theorem turned_succ {x : α} (h : l[k]? = some x) : turned f l (k + 1) = (turned f l k).set k (f x) := by
  have hk := (List.getElem?_eq_some_iff.1 h).1
  have hx := (List.getElem?_eq_some_iff.1 h).2
  apply List.ext_getElem?
  intro j
  by_cases hj : j < l.length
  · rw [turned_get hj, List.getElem?_set]
    rw [turned_length]
    by_cases e : k = j
    · subst e; simp [hk, hx]
    · rw [if_neg e, turned_get hj]
      by_cases h1 : j < k
      · rw [if_pos h1, if_pos (by omega)]
      · rw [if_neg h1, if_neg (by omega)]
  · rw [List.getElem?_eq_none (by rw [turned_length]; omega), List.getElem?_eq_none (by rw [List.length_set, turned_length]; omega)]
theorem turned_same {x : α} (h : l[k]? = some x) (e : f x = x) : turned f l (k + 1) = turned f l k := by
  have hk := (List.getElem?_eq_some_iff.1 h).1
  have hx := (List.getElem?_eq_some_iff.1 h).2
  rw [turned_succ h, e]
  apply List.ext_getElem?
  intro j
  rw [List.getElem?_set]
  split
  · rename_i e2; subst e2; rw [turned_length, if_pos hk, turned_get hk]; simp [hx]
  · rfl
end
end Go.Ax.M
namespace Go.Proofs.YtipigjckoejfpaaGreat.Ax
open Go Go.Ax Go.Ax.M
section
variable {H : Heap} {K : AVal → Heap → Prop} {s : State} {i : Int} {oS oT : Nat} {fS fT : Bool}

theorem emptySl_self {k : Nat} (h : (k : Int) = i) : emptySl s i (s.slot k) = s.slot k := by
  have : i.toNat = k := by omega
  simp only [emptySl, this]; split <;> rfl

theorem slot_some {s : State} {k : Nat} (h : k < s.slots.length) : s.slots[k]? = some (s.slot k) := by simp [State.slot, h, List.getD]
theorem thing_some {s : State} {k : Nat} (h : k < s.things.length) : s.things[k]? = some (s.thing k) := by simp [State.thing, h, List.getD]

theorem take_empty_spec (hS : H[oS]? = some (.arr 5 (s.slots.map Slot.cells) false)) (hT : H[oT]? = some (.arr 13 (s.things.map Thing.cells) false)) (hlS : s.slots.length ≤ 1000) (hlT : s.things.length ≤ 1000)
    (hn : emptyB s i = false → K (.bool false) H)
    (h : emptyB s i = true → ∀ L, K (.bool true) ((H.set oS (slotsO (emptyS s i))).set oT (thingsO (emptyS s i)) ++ L)) :
    ACalls Tryz.prog 145 [.agg [.int .i64 s.geo.threads, .int .i64 s.geo.slots, .int .i64 s.geo.things, .slice oS s.slots.length 0 s.slots.length fS, .slice oT s.things.length 0 s.things.length fT], .int .i64 i] H K := by
  have kT := Keeps.of hT
  have kS := Keeps.of hS
  have hne : oS ≠ oT := by rintro rfl; rw [hS] at hT; cases hT
  cases he : emptyB s i with
  | false =>
    have hn := hn he
    clear h
    refine ACalls.tidy ?_
    by_cases i0 : i < 0
    · refine ACalls.into ok145 (Nat.le_of_ble_eq_true rfl) ?_; (try simp only [c145, wpx_of k145_0.eq_1, wpx_of k145_1.eq_1, wpx_of k145_2.eq_1, wpx_of k145_3.eq_1, wpx_of k145_5.eq_1, wpx_of k145_6.eq_1, wpx_of k145_7.eq_1, wpx_of k145_9.eq_1, wpx_of k145_10.eq_1, wpx_of k145_11.eq_1, wpx_of k145_12.eq_1, kS, kT, i0, go_sem]); repeat' ((first
    | refine And.intro (Or.inr rfl) ?_
    | ((first | refine cB ?_ ?_ | refine gT ?_ ?_ | refine gF ?_ ?_ | refine dT ?_ ?_ | refine dF ?_ ?_) <;> intro hc)) <;> try simp only [*, wpx_of k145_0.eq_1, wpx_of k145_1.eq_1, wpx_of k145_2.eq_1, wpx_of k145_3.eq_1, wpx_of k145_5.eq_1, wpx_of k145_6.eq_1, wpx_of k145_7.eq_1, wpx_of k145_9.eq_1, wpx_of k145_10.eq_1, wpx_of k145_11.eq_1, wpx_of k145_12.eq_1, kS, kT, i0, go_sem])
      all_goals first | exact ⟨rfl, _, rfl⟩ | exact ⟨rfl, ⟨_, rfl⟩, hn⟩
    by_cases i1 : (s.slots.length : Int) ≤ i
    · refine ACalls.into ok145 (Nat.le_of_ble_eq_true rfl) ?_; (try simp only [c145, wpx_of k145_0.eq_1, wpx_of k145_1.eq_1, wpx_of k145_2.eq_1, wpx_of k145_3.eq_1, wpx_of k145_5.eq_1, wpx_of k145_6.eq_1, wpx_of k145_7.eq_1, wpx_of k145_9.eq_1, wpx_of k145_10.eq_1, wpx_of k145_11.eq_1, wpx_of k145_12.eq_1, kS, kT, i0, i1, go_sem]); repeat' ((first
    | refine And.intro (Or.inr rfl) ?_
    | ((first | refine cB ?_ ?_ | refine gT ?_ ?_ | refine gF ?_ ?_ | refine dT ?_ ?_ | refine dF ?_ ?_) <;> intro hc)) <;> try simp only [*, wpx_of k145_0.eq_1, wpx_of k145_1.eq_1, wpx_of k145_2.eq_1, wpx_of k145_3.eq_1, wpx_of k145_5.eq_1, wpx_of k145_6.eq_1, wpx_of k145_7.eq_1, wpx_of k145_9.eq_1, wpx_of k145_10.eq_1, wpx_of k145_11.eq_1, wpx_of k145_12.eq_1, kS, kT, i0, i1, go_sem])
      all_goals first | exact ⟨rfl, _, rfl⟩ | exact ⟨rfl, ⟨_, rfl⟩, hn⟩
    have j2 : (i < (s.slots.length : Int)) = True := eq_true (by omega)
    have j3 : (0 ≤ i) = True := eq_true (by omega)
    have hgi := slots_get (s := s) (k := i.toNat) (by omega)
    have i3 : cNone ⟨(s.slot i.toNat).cap.ty, (s.slot i.toNat).cap.th, (s.slot i.toNat).cap.ri, (s.slot i.toNat).cap.ba⟩ = true := by
      simp only [emptyB, decide_eq_false i0, decide_eq_false i1, Bool.not_false, Bool.true_and, Bool.not_eq_false'] at he
      exact he
    refine ACalls.into ok145 (Nat.le_of_ble_eq_true rfl) ?_; (try simp only [c145, wpx_of k145_0.eq_1, wpx_of k145_1.eq_1, wpx_of k145_2.eq_1, wpx_of k145_3.eq_1, wpx_of k145_5.eq_1, wpx_of k145_6.eq_1, wpx_of k145_7.eq_1, wpx_of k145_9.eq_1, wpx_of k145_10.eq_1, wpx_of k145_11.eq_1, wpx_of k145_12.eq_1, kS, kT, hgi, i0, i1, j2, j3, i3, go_sem]); repeat' ((first
    | refine And.intro (Or.inr rfl) ?_
    | ((first | refine cB ?_ ?_ | refine gT ?_ ?_ | refine gF ?_ ?_ | refine dT ?_ ?_ | refine dF ?_ ?_) <;> intro hc)
    | refine cap_None_x ?_) <;> try simp only [*, wpx_of k145_0.eq_1, wpx_of k145_1.eq_1, wpx_of k145_2.eq_1, wpx_of k145_3.eq_1, wpx_of k145_5.eq_1, wpx_of k145_6.eq_1, wpx_of k145_7.eq_1, wpx_of k145_9.eq_1, wpx_of k145_10.eq_1, wpx_of k145_11.eq_1, wpx_of k145_12.eq_1, kS, kT, hgi, i0, i1, j2, j3, i3, go_sem])
    all_goals first | exact ⟨rfl, _, rfl⟩ | exact ⟨rfl, ⟨_, rfl⟩, hn⟩
  | true =>
    have h := h he
    clear hn
    have hb := he
    simp only [emptyB, Bool.and_eq_true, Bool.not_eq_true', decide_eq_false_iff_not, Int.not_lt, Int.not_le] at hb
    obtain ⟨i0, i1, i2⟩ := hb
    have j0 : (i < 0) = False := eq_false (by omega)
    have j1 : ((s.slots.length : Int) ≤ i) = False := eq_false (by omega)
    have j2 : (i < (s.slots.length : Int)) = True := eq_true (by omega)
    have j3 : (0 ≤ i) = True := eq_true i0
    have hgi := slots_get (s := s) (k := i.toNat) (by omega)
    have i3 : cNone ⟨(s.slot i.toNat).cap.ty, (s.slot i.toNat).cap.th, (s.slot i.toNat).cap.ri, (s.slot i.toNat).cap.ba⟩ = false := i2
    refine ACalls.into ok145 (Nat.le_of_ble_eq_true rfl) ?_; (try simp only [c145, wpx_of k145_0.eq_1, wpx_of k145_1.eq_1, wpx_of k145_2.eq_1, wpx_of k145_3.eq_1, wpx_of k145_5.eq_1, wpx_of k145_6.eq_1, wpx_of k145_7.eq_1, wpx_of k145_9.eq_1, wpx_of k145_10.eq_1, wpx_of k145_11.eq_1, wpx_of k145_12.eq_1, kS, kT, hgi, j0, j1, j2, j3, i3, go_sem]); repeat' ((first
    | refine And.intro (Or.inr rfl) ?_
    | ((first | refine cB ?_ ?_ | refine gT ?_ ?_ | refine gF ?_ ?_ | refine dT ?_ ?_ | refine dF ?_ ?_) <;> intro hc)
    | refine cap_None_x ?_) <;> try simp only [*, wpx_of k145_0.eq_1, wpx_of k145_1.eq_1, wpx_of k145_2.eq_1, wpx_of k145_3.eq_1, wpx_of k145_5.eq_1, wpx_of k145_6.eq_1, wpx_of k145_7.eq_1, wpx_of k145_9.eq_1, wpx_of k145_10.eq_1, wpx_of k145_11.eq_1, wpx_of k145_12.eq_1, kS, kT, hgi, j0, j1, j2, j3, i3, go_sem])
    have e0 : H = H.set oS (.arr 5 ((turned (emptySl s i) s.slots 0).map Slot.cells) false) := by rw [turned_zero, set_same hS]
    refine ALoop.keep [28, 1, 2, 27] ?_; simp only [List.map_cons, List.map_nil, go_sem]
    refine ALoop.heap (H' := H.set oS (.arr 5 ((turned (emptySl s i) s.slots 0).map Slot.cells) false) ++ [_]) (congrArg (· ++ [_]) e0) ?_
    refine ALoop.acc (fun k G => [(28, .int .i64 (k : Int))]) (fun k G => H.set oS (.arr 5 ((turned (emptySl s i) s.slots k).map Slot.cells) false) ++ _ :: G) (fun k G => True) s.slots.length ?_ (a0 := []) trivial
    intro k G hk _ next
    refine ALoop.hid fun W hW => ?_
    have kT := hW.keepO hT hne
    have kS := hW.keepM hS
    have kst := hW.keepS
    have kS0 := kS.at
    have kT0 := kT.at
    have kst0 := kst.at
    have kss := kS.set
    refine ALoop.unfold ?_
    have hw := wrap_succ (k := k) (by omega)
    have hl : (turned (emptySl s i) s.slots k).length = s.slots.length := turned_length
    have hg1 : k < s.slots.length → ((turned (emptySl s i) s.slots k).map Slot.cells)[k]? = some [.int .i64 (s.slot k).cap.ty, .int .i64 (s.slot k).cap.th, .int .i64 (s.slot k).cap.ri, .int .i64 (s.slot k).cap.ba, .int .i64 (s.slot k).up] := fun h => by
      rw [List.getElem?_map, turned_get h, if_neg (Nat.lt_irrefl _)]; simp [State.slot, List.getD, h, Slot.cells]
    have hg2 : ((turned (emptySl s i) s.slots k).map Slot.cells)[i.toNat]? = some [.int .i64 (s.slot i.toNat).cap.ty, .int .i64 (s.slot i.toNat).cap.th, .int .i64 (s.slot i.toNat).cap.ri, .int .i64 (s.slot i.toNat).cap.ba, .int .i64 (s.slot i.toNat).up] := by
      have hi : i.toNat < s.slots.length := by omega
      have es : s.slots[i.toNat] = s.slot i.toNat := by simp [State.slot, List.getD, hi]
      rw [List.getElem?_map, turned_get hi, es, emptySl_self (by omega)]; simp [Slot.cells]
    have hg3 : k < s.slots.length → (((turned (emptySl s i) s.slots k).map Slot.cells).set k [.int .i64 (s.slot k).cap.ty, .int .i64 (s.slot k).cap.th, .int .i64 (s.slot k).cap.ri, .int .i64 (s.slot k).cap.ba, .int .i64 (s.slot i.toNat).up])[i.toNat]? = some [.int .i64 (s.slot i.toNat).cap.ty, .int .i64 (s.slot i.toNat).cap.th, .int .i64 (s.slot i.toNat).cap.ri, .int .i64 (s.slot i.toNat).cap.ba, .int .i64 (s.slot i.toNat).up] := fun h => by
      rw [List.getElem?_set]
      split
      · rename_i e; rw [← e, if_pos (by rw [List.length_map, hl]; exact h)]
      · exact hg2
    have hneB : oS ≠ H.length := fun e => by have := get_lt hS; omega
    have ko0 := fun y => kst.other0 hneB y
    have ks0 := fun y => kS.self0 y
    have kt0 := fun y => kT.other0 hne y
    clear e0 hgi
    (try simp only [wpx_of k145_0.eq_1, wpx_of k145_1.eq_1, wpx_of k145_2.eq_1, wpx_of k145_3.eq_1, wpx_of k145_5.eq_1, wpx_of k145_6.eq_1, wpx_of k145_7.eq_1, wpx_of k145_9.eq_1, wpx_of k145_10.eq_1, wpx_of k145_11.eq_1, wpx_of k145_12.eq_1, kS, kT, kst, hw, hl, hg1, hg2, hg3, kss, ko0, ks0, kt0, j2, j3, wpx_of b145_4.eq_1, nlt_iff, n0_le, List.cons_append, List.nil_append, List.length_set, go_sem]); repeat' ((first
    | refine And.intro (Or.inr rfl) ?_
    | ((first | refine cB ?_ ?_ | refine gT ?_ ?_ | refine gF ?_ ?_ | refine dT ?_ ?_ | refine dF ?_ ?_) <;> intro hc)) <;> try simp only [*, wpx_of k145_0.eq_1, wpx_of k145_1.eq_1, wpx_of k145_2.eq_1, wpx_of k145_3.eq_1, wpx_of k145_5.eq_1, wpx_of k145_6.eq_1, wpx_of k145_7.eq_1, wpx_of k145_9.eq_1, wpx_of k145_10.eq_1, wpx_of k145_11.eq_1, wpx_of k145_12.eq_1, kS, kT, kst, hw, hl, hg1, hg2, hg3, kss, ko0, ks0, kt0, j2, j3, wpx_of b145_4.eq_1, nlt_iff, n0_le, List.cons_append, List.nil_append, List.length_set, go_sem])
    case' true.refine_1.refine_1 =>
      have e : ((turned (emptySl s i) s.slots k).map Slot.cells).set k [.int .i64 (s.slot k).cap.ty, .int .i64 (s.slot k).cap.th, .int .i64 (s.slot k).cap.ri, .int .i64 (s.slot k).cap.ba, .int .i64 (s.slot i.toNat).up] = (turned (emptySl s i) s.slots (k + 1)).map Slot.cells := by
        rw [turned_succ (slot_some (by assumption)), List.map_set]
        congr 1
        simp only [emptySl, if_pos (show (s.slot k).up = i by assumption), Slot.cells, Cap.cells, List.cons_append, List.nil_append]
      rw [e]
    case' true.refine_1.refine_2 =>
      have e : turned (emptySl s i) s.slots (k + 1) = turned (emptySl s i) s.slots k := turned_same (slot_some (by assumption)) (by simp only [emptySl, if_neg (show ¬ (s.slot k).up = i by assumption)])
      rw [e] at next
    case' true.refine_2 =>
      have hk' : k = s.slots.length := by omega
      have e : ((turned (emptySl s i) s.slots k).map Slot.cells).set i.toNat [.int .i64 0, .int .i64 0, .int .i64 0, .int .i64 0, .int .i64 (-1)] = (emptyS s i).slots.map Slot.cells := by
        rw [hk', turned_all]; simp only [emptyS, List.map_set]; rfl
      rw [e]
    all_goals
      have hW : W = _ := hW
      subst hW
      have hms := set_app_set hS
      try simp only [hms, List.append_eq]
    case true.refine_1.refine_1 => (refine ALoop.keep [28, 1, 2, 27] ?_; simp only [List.map_cons, List.map_nil, go_sem]; refine next _ (by assumption) trivial)
    case true.refine_1.refine_2 => (refine ALoop.keep [28, 1, 2, 27] ?_; simp only [List.map_cons, List.map_nil, go_sem]; refine next _ (by assumption) trivial)
    clear next kT kS kst kS0 kT0 kst0 kss ko0 ks0 kt0 hg1 hg2 hg3 hms e hw hl
    generalize hH2 : H.set oS (.arr 5 ((emptyS s i).slots.map Slot.cells) false) = H2 at *
    have hlen : H2.length = H.length := by rw [← hH2, List.length_set]
    have hS2 : H2[oS]? = some (slotsO (emptyS s i)) := by rw [← hH2]; exact (Keeps.of hS).self0 _
    have hT2 : H2[oT]? = some (.arr 13 (s.things.map Thing.cells) false) := by rw [← hH2]; exact (Keeps.of hT).other0 hne _
    have e0 : H2 = H2.set oT (.arr 13 ((turned (emptyTh i) s.things 0).map Thing.cells) false) := by rw [turned_zero, set_same hT2]
    refine ALoop.keep [59, 1, 2, 58] ?_; simp only [List.map_cons, List.map_nil, go_sem]
    refine ALoop.heap (H' := H2.set oT (.arr 13 ((turned (emptyTh i) s.things 0).map Thing.cells) false) ++ _ :: _) (congrArg (· ++ _ :: _) e0) ?_
    refine ALoop.acc (fun k G => [(59, .int .i64 (k : Int))]) (fun k G => H2.set oT (.arr 13 ((turned (emptyTh i) s.things k).map Thing.cells) false) ++ _ :: G) (fun k G => True) s.things.length ?_ (a0 := G) trivial
    clear e0 hk' hc
    intro k G hk _ next
    refine ALoop.hid fun W hW => ?_
    have kS := hW.keepO hS2 hne.symm
    have kT := hW.keepM hT2
    have kst := hW.keepS
    rw [hlen] at kst
    have kT0 := kT.at
    have kst0 := kst.at
    have kts := kT.set
    refine ALoop.unfold ?_
    have hw := wrap_succ (k := k) (by omega)
    have hwi : IntKind.wrap .i64 (i + 1) = i + 1 := w64 (by omega) (by omega)
    have hl : (turned (emptyTh i) s.things k).length = s.things.length := turned_length
    have hg1 : k < s.things.length → ((turned (emptyTh i) s.things k).map Thing.cells)[k]? = some [.int .i64 (s.thing k).ty, .int .i64 (s.thing k).bits, .int .i64 (s.thing k).base, .int .i64 (s.thing k).size, .int .i64 (s.thing k).used, .int .i64 (s.thing k).from_, .int .i64 (s.thing k).badge, .bool (s.thing k).full, .int .u64 (s.thing k).word, .int .u64 (s.thing k).d0, .int .u64 (s.thing k).d1, .int .u64 (s.thing k).d2, .int .u64 (s.thing k).d3] := fun h => by
      rw [List.getElem?_map, turned_get h, if_neg (Nat.lt_irrefl _)]; simp [State.thing, List.getD, h, Thing.cells]
    (try simp only [wpx_of k145_0.eq_1, wpx_of k145_1.eq_1, wpx_of k145_2.eq_1, wpx_of k145_3.eq_1, wpx_of k145_5.eq_1, wpx_of k145_6.eq_1, wpx_of k145_7.eq_1, wpx_of k145_9.eq_1, wpx_of k145_10.eq_1, wpx_of k145_11.eq_1, wpx_of k145_12.eq_1, kS, kT, kst, hw, hwi, hl, hg1, kts, wpx_of b145_8.eq_1, nlt_iff, n0_le, List.cons_append, List.nil_append, List.length_set, go_sem]); repeat' ((first
    | refine And.intro (Or.inr rfl) ?_
    | ((first | refine cB ?_ ?_ | refine gT ?_ ?_ | refine gF ?_ ?_ | refine dT ?_ ?_ | refine dF ?_ ?_) <;> intro hc)) <;> try simp only [*, wpx_of k145_0.eq_1, wpx_of k145_1.eq_1, wpx_of k145_2.eq_1, wpx_of k145_3.eq_1, wpx_of k145_5.eq_1, wpx_of k145_6.eq_1, wpx_of k145_7.eq_1, wpx_of k145_9.eq_1, wpx_of k145_10.eq_1, wpx_of k145_11.eq_1, wpx_of k145_12.eq_1, kS, kT, kst, hw, hwi, hl, hg1, kts, wpx_of b145_8.eq_1, nlt_iff, n0_le, List.cons_append, List.nil_append, List.length_set, go_sem])
    case' true.refine_2.refine_1.refine_1 =>
      have e : ((turned (emptyTh i) s.things k).map Thing.cells).set k [.int .i64 (s.thing k).ty, .int .i64 (s.thing k).bits, .int .i64 (s.thing k).base, .int .i64 (s.thing k).size, .int .i64 (s.thing k).used, .int .i64 0, .int .i64 (s.thing k).badge, .bool (s.thing k).full, .int .u64 (s.thing k).word, .int .u64 (s.thing k).d0, .int .u64 (s.thing k).d1, .int .u64 (s.thing k).d2, .int .u64 (s.thing k).d3] = (turned (emptyTh i) s.things (k + 1)).map Thing.cells := by
        rw [turned_succ (thing_some (by assumption)), List.map_set]
        congr 1
        simp only [emptyTh, if_pos (show (s.thing k).from_ = i + 1 by assumption), Thing.cells]
      rw [e]
    case' true.refine_2.refine_1.refine_2 =>
      have e : turned (emptyTh i) s.things (k + 1) = turned (emptyTh i) s.things k := turned_same (thing_some (by assumption)) (by simp only [emptyTh, if_neg (show ¬ (s.thing k).from_ = i + 1 by assumption)])
      rw [e] at next
    all_goals
      have hW : W = _ := hW
      subst hW
      have hms := set_app_set hT2
      try simp only [hms, List.append_eq]
    case true.refine_2.refine_1.refine_1 => (refine ALoop.keep [59, 1, 2, 58] ?_; simp only [List.map_cons, List.map_nil, go_sem]; refine next _ (by assumption) trivial)
    case true.refine_2.refine_1.refine_2 => (refine ALoop.keep [59, 1, 2, 58] ?_; simp only [List.map_cons, List.map_nil, go_sem]; refine next _ (by assumption) trivial)
    have hk' : k = s.things.length := by omega
    rw [hk', turned_all, ← hH2]
    exact h _
end
end Go.Proofs.YtipigjckoejfpaaGreat.Ax

/- Emptied, and taken away: what the program's functions answer, on. Conditions: none. -/
namespace Go.Ax
theorem findI_ge {p : Nat → Bool} {n : Nat} : decide (0 ≤ findI p n) = !(List.range n).all fun k => !p k := by
  cases h : (List.range n).all fun k => !p k with
  | true => rw [findI_none h]; rfl
  | false =>
    rw [List.all_eq_false] at h
    obtain ⟨k, hk, hp⟩ := h
    have hp : p k = true := by simpa using hp
    obtain ⟨j, hj⟩ : ∃ j, (List.range n).find? p = some j := by
      cases hf : (List.range n).find? p with
      | none => rw [List.find?_eq_none] at hf; exact absurd hp (hf k hk)
      | some j => exact ⟨j, rfl⟩
    have e : findI p n = (j : Int) := by simp [findI, hj]
    rw [e]; simp
end Go.Ax
namespace Go.Proofs.YtipigjckoejfpaaGreat.Ax
open Go Go.Ax Go.Ax.M
section
variable {H : Heap} {K : AVal → Heap → Prop} {s : State} {i : Int} {oS oT : Nat} {fS fT rS rT : Bool}

theorem slots_IndexFunc_spec {g : FuncId} {cap : List AVal} {p : Nat → Bool} (hS : H[oS]? = some (.arr 5 (s.slots.map Slot.cells) rS)) (hl : s.slots.length ≤ 1000) (hc : callable Tryz.prog g = true)
    (hp : ∀ k, k < s.slots.length → ∀ K' : AVal → Heap → Prop, K' (.bool (p k)) H → ACalls Tryz.prog g (.agg (s.slot k).cells :: cap) H K') (h : K (.int .i64 (findI p s.slots.length)) H) :
    ACalls Tryz.prog 277 [.slice oS s.slots.length 0 s.slots.length fS, .func g cap] H K := by
  refine ACalls.into ok277 (Nat.le_of_ble_eq_true rfl) ?_; (try simp only [c277, wpx_of k277_0.eq_1, wpx_of k277_1.eq_1, wpx_of k277_2.eq_1, wpx_of k277_4.eq_1, go_sem]); repeat' ((first
    | refine And.intro (Or.inr rfl) ?_
    | ((first | refine cB ?_ ?_ | refine gT ?_ ?_ | refine gF ?_ ?_ | refine dT ?_ ?_ | refine dF ?_ ?_) <;> intro hc)) <;> try simp only [*, wpx_of k277_0.eq_1, wpx_of k277_1.eq_1, wpx_of k277_2.eq_1, wpx_of k277_4.eq_1, go_sem])
  refine ALoop.keep [8, 0, 1, 7] ?_; simp only [List.map_cons, List.map_nil, go_sem]
  refine ALoop.cnt (fun k => (List.range k).all (fun j => !p j) = true) s.slots.length (by simp) fun k hk hI next => ?_
  refine ALoop.unfold ?_
  have hw := wrap_succ (k := k) (by omega)
  have hg : k < s.slots.length → _ := fun h => slots_get (s := s) (k := k) h
  have hp' : k < s.slots.length → ∀ K' : AVal → Heap → Prop, K' (.bool (p k)) H → ACalls Tryz.prog g (.agg (s.slot k).cells :: cap) H K' := hp k
  clear hp
  (try simp only [wpx_of k277_0.eq_1, wpx_of k277_1.eq_1, wpx_of k277_2.eq_1, wpx_of k277_4.eq_1, hg, hw, hS, hc, wpx_of b277_3.eq_1, nlt_iff, n0_le, go_sem]); repeat' ((first
    | refine And.intro (Or.inr rfl) ?_
    | ((first | refine cB ?_ ?_ | refine gT ?_ ?_ | refine gF ?_ ?_ | refine dT ?_ ?_ | refine dF ?_ ?_) <;> intro hc)
    | refine hp' (by assumption) _ ?_) <;> try simp only [*, wpx_of k277_0.eq_1, wpx_of k277_1.eq_1, wpx_of k277_2.eq_1, wpx_of k277_4.eq_1, hg, hw, hS, hc, wpx_of b277_3.eq_1, nlt_iff, n0_le, go_sem])
  · exact ki h (findI_hit (by assumption) hI (by assumption)).symm
  · (refine ALoop.keep [8, 0, 1, 7] ?_; simp only [List.map_cons, List.map_nil, go_sem]; refine next (by assumption) ?_)
    rw [all_range (N := 0), hI]; simp [*]
  · have hk : k = s.slots.length := by omega
    subst hk
    exact ki h (findI_none hI).symm

theorem slots_ContainsFunc_spec {g : FuncId} {cap : List AVal} {p : Nat → Bool} (hS : H[oS]? = some (.arr 5 (s.slots.map Slot.cells) rS)) (hl : s.slots.length ≤ 1000) (hc : callable Tryz.prog g = true)
    (hp : ∀ k, k < s.slots.length → ∀ K' : AVal → Heap → Prop, K' (.bool (p k)) H → ACalls Tryz.prog g (.agg (s.slot k).cells :: cap) H K') (h : K (.bool (!(List.range s.slots.length).all fun k => !p k)) H) :
    ACalls Tryz.prog 251 [.slice oS s.slots.length 0 s.slots.length fS, .func g cap] H K := by
  rw [← findI_ge] at h
  refine ACalls.into ok251 (Nat.le_of_ble_eq_true rfl) ?_; (try simp only [c251, wpx_of k251_0.eq_1, go_sem]); repeat' ((first
    | refine And.intro (Or.inr rfl) ?_
    | ((first | refine cB ?_ ?_ | refine gT ?_ ?_ | refine gF ?_ ?_ | refine dT ?_ ?_ | refine dF ?_ ?_) <;> intro hc)
    | refine slots_IndexFunc_spec (p := p) hS hl hc hp ?_) <;> try simp only [*, wpx_of k251_0.eq_1, go_sem])

theorem take_held_1_spec {t : Nat} {k : Nat} {o : Nat} (hb : H[o]? = some (.arr 1 [[.int .i64 (t : Int)]] false)) (h : K (.bool (holdB s t k)) H) : ACalls Tryz.prog 252 [.agg (s.slot k).cells, .ptr o 1 0 0] H K := by
  have kb := Keeps.of hb
  refine ACalls.tidy ?_
  unfold Slot.cells
  refine ACalls.into ok252 (Nat.le_of_ble_eq_true rfl) ?_; (try simp only [c252, wpx_of k252_0.eq_1, kb, List.cons_append, List.nil_append, go_sem]); repeat' ((first
    | refine And.intro (Or.inr rfl) ?_
    | ((first | refine cB ?_ ?_ | refine gT ?_ ?_ | refine gF ?_ ?_ | refine dT ?_ ?_ | refine dF ?_ ?_) <;> intro hc)
    | refine cap_None_x ?_) <;> try simp only [*, wpx_of k252_0.eq_1, kb, List.cons_append, List.nil_append, go_sem])
  all_goals exact tb h ⟨_, rfl⟩ (by simp only [holdB]; rw [show cNone (s.slot k).cap = _ by assumption]; rfl)

theorem take_held_spec {t : Nat} (hS : H[oS]? = some (.arr 5 (s.slots.map Slot.cells) rS)) (hlS : s.slots.length ≤ 1000) (h : K (.bool (heldB s t)) H) : ACalls Tryz.prog 220 [.agg [.int .i64 s.geo.threads, .int .i64 s.geo.slots, .int .i64 s.geo.things, .slice oS s.slots.length 0 s.slots.length fS, .slice oT s.things.length 0 s.things.length fT], .int .i64 (t : Int)] H K := by
  have kS := Keeps.of hS
  refine ACalls.tidy ?_
  refine ACalls.into ok220 (Nat.le_of_ble_eq_true rfl) ?_; (try simp only [c220, wpx_of k220_0.eq_1, go_sem]); repeat' ((first
    | refine And.intro (Or.inr rfl) ?_
    | ((first | refine cB ?_ ?_ | refine gT ?_ ?_ | refine gF ?_ ?_ | refine dT ?_ ?_ | refine dF ?_ ?_) <;> intro hc)
    | refine slots_ContainsFunc_spec (p := fun k => holdB s t k) (kS _) hlS (callable_fn ok252) (fun k hk K' hK' => take_held_1_spec at1 hK') ?_) <;> try simp only [*, wpx_of k220_0.eq_1, go_sem])
  exact tb h ⟨_, rfl⟩ (by simp only [heldB])

theorem take_empty_x {x0 x1 x2 : Int} {n m : Nat} (hS : H[oS]? = some (slotsO s)) (hT : H[oT]? = some (thingsO s)) (en : s.slots.length = n) (em : s.things.length = m) (eg : s.geo.threads = x0 ∧ s.geo.slots = x1 ∧ s.geo.things = x2) (hlS : n ≤ 1000) (hlT : m ≤ 1000)
    (hn : emptyB s i = false → K (.bool false) H)
    (h : emptyB s i = true → ∀ L, K (.bool true) ((H.set oS (slotsO (emptyS s i))).set oT (thingsO (emptyS s i)) ++ L)) :
    ACalls Tryz.prog 145 [.agg [.int .i64 x0, .int .i64 x1, .int .i64 x2, .slice oS n 0 n fS, .slice oT m 0 m fT], .int .i64 i] H K := by
  obtain ⟨rfl, rfl, rfl⟩ := eg
  subst en em
  exact take_empty_spec hS hT hlS hlT hn h
end
end Go.Proofs.YtipigjckoejfpaaGreat.Ax

/- Emptied, and taken away, where nothing more goes with it: what the program's functions answer. Conditions: none. -/
namespace Go.Proofs.YtipigjckoejfpaaGreat.Ax
open Go Go.Ax Go.Ax.M
section
variable {H : Heap} {K : AVal → Heap → Prop} {s : State} {i : Int} {oS oT oL : Nat} {fS fT fL rS rT rL : Bool}

theorem take_held_x {x0 x1 x2 : Int} {n m t : Nat} (hS : H[oS]? = some (.arr 5 (s.slots.map Slot.cells) rS)) (en : s.slots.length = n) (em : s.things.length = m) (eg : s.geo.threads = x0 ∧ s.geo.slots = x1 ∧ s.geo.things = x2) (hlS : n ≤ 1000) (h : K (.bool (heldB s t)) H) :
    ACalls Tryz.prog 220 [.agg [.int .i64 x0, .int .i64 x1, .int .i64 x2, .slice oS n 0 n fS, .slice oT m 0 m fT], .int .i64 (t : Int)] H K := by
  obtain ⟨rfl, rfl, rfl⟩ := eg
  subst en em
  exact take_held_spec hS hlS h

theorem take_lost_no {x0 x1 x2 : Int} {n m t : Nat} (hS : H[oS]? = some (.arr 5 (s.slots.map Slot.cells) rS)) (hT : H[oT]? = some (.arr 13 (s.things.map Thing.cells) rT)) (en : s.slots.length = n) (em : s.things.length = m) (eg : s.geo.threads = x0 ∧ s.geo.slots = x1 ∧ s.geo.things = x2) (hlS : n ≤ 1000) (hlT : m ≤ 1000) (hg : 0 ≤ s.geo.threads ∧ s.geo.threads ≤ 1000)
    (ht : t < m) (hlost : lostB s t = false) (h : K (.tup [.int .i64 0, .bool false]) H) :
    ACalls Tryz.prog 146 [.agg [.int .i64 x0, .int .i64 x1, .int .i64 x2, .slice oS n 0 n fS, .slice oT m 0 m fT], .int .i64 (t : Int)] H K := by
  obtain ⟨rfl, rfl, rfl⟩ := eg
  subst en em
  have kS := Keeps.of hS
  have kT := Keeps.of hT
  have hgt := things_get (s := s) ht
  have hw : IntKind.wrap .i64 (2 + s.geo.threads) = 2 + s.geo.threads := w64 (by omega) (by omega)
  have ht' : ((t : Int) < (s.things.length : Int)) = True := eq_true (by omega)
  refine ACalls.tidy ?_
  refine ACalls.into ok146 (Nat.le_of_ble_eq_true rfl) ?_; (try simp only [c146, wpx_of k146_0.eq_1, wpx_of k146_1.eq_1, wpx_of k146_2.eq_1, wpx_of k146_3.eq_1, wpx_of k146_5.eq_1, wpx_of k146_6.eq_1, wpx_of k146_7.eq_1, wpx_of k146_8.eq_1, wpx_of k146_9.eq_1, wpx_of k146_10.eq_1, kS, kT, hgt, hw, ht', n0_le, Int.toNat_natCast, go_sem]); repeat' ((first
    | refine And.intro (Or.inr rfl) ?_
    | ((first | refine cB ?_ ?_ | refine gT ?_ ?_ | refine gF ?_ ?_ | refine dT ?_ ?_ | refine dF ?_ ?_) <;> intro hc)
    | refine take_held_x (kS _) rfl rfl ⟨rfl, rfl, rfl⟩ hlS ?_) <;> try simp only [*, wpx_of k146_0.eq_1, wpx_of k146_1.eq_1, wpx_of k146_2.eq_1, wpx_of k146_3.eq_1, wpx_of k146_5.eq_1, wpx_of k146_6.eq_1, wpx_of k146_7.eq_1, wpx_of k146_8.eq_1, wpx_of k146_9.eq_1, wpx_of k146_10.eq_1, kS, kT, hgt, hw, ht', n0_le, Int.toNat_natCast, go_sem])
  all_goals first | exact ⟨rfl, _, rfl⟩ | exact ⟨rfl, ⟨_, rfl⟩, h⟩ | (exfalso; simp [lostB, rootB, *] at hlost; done) | (exfalso; simp_all [lostB, rootB]; done)

theorem empties_len {l : List Int} : ∀ (s : State) (n : Int), (empties s n l).1.slots.length = s.slots.length ∧ (empties s n l).1.things.length = s.things.length ∧ (empties s n l).1.geo = s.geo := by
  induction l with
  | nil => exact fun s n => ⟨rfl, rfl, rfl⟩
  | cons i l ih =>
    intro s n
    have e : empties s n (i :: l) = empties (emptyE (s, n) i).1 (emptyE (s, n) i).2 l := rfl
    rw [e]
    have := ih (emptyE (s, n) i).1 (emptyE (s, n) i).2
    have h2 : (emptyE (s, n) i).1.slots.length = s.slots.length ∧ (emptyE (s, n) i).1.things.length = s.things.length ∧ (emptyE (s, n) i).1.geo = s.geo := by
      simp only [emptyE]; cases emptyB s i <;> simp [emptyS]
    exact ⟨this.1.trans h2.1, this.2.1.trans h2.2.1, this.2.2.trans h2.2.2⟩
theorem empties_succ {l : List Int} {k : Nat} {s : State} {n : Int} (hk : k < l.length) : empties s n (l.take (k + 1)) = emptyE (empties s n (l.take k)) (l.getD k 0) := by
  rw [List.take_succ_eq_append_getElem hk, empties, List.foldl_append]; simp [empties, List.getD, hk]

theorem empties_num {l : List Int} : ∀ (s : State) (n : Int), n ≤ (empties s n l).2 ∧ (empties s n l).2 ≤ n + l.length := by
  induction l with
  | nil => exact fun s n => ⟨Int.le_refl _, by simp [empties]⟩
  | cons i l ih =>
    intro s n
    have e : empties s n (i :: l) = empties (emptyE (s, n) i).1 (emptyE (s, n) i).2 l := rfl
    rw [e]
    have := ih (emptyE (s, n) i).1 (emptyE (s, n) i).2
    have h2 : n ≤ (emptyE (s, n) i).2 ∧ (emptyE (s, n) i).2 ≤ n + 1 := by
      simp only [emptyE]; cases emptyB s i <;> simp <;> omega
    simp only [List.length_cons]
    omega

theorem take_Empty_calm {l : List Int} (hL : H[oL]? = some (.arr 1 (ints l) rL)) (hS : H[oS]? = some (.arr 5 (s.slots.map Slot.cells) rS)) (hT : H[oT]? = some (.arr 13 (s.things.map Thing.cells) rT)) (good : sGood s = true) (hl : l.length ≤ 1000)
    (calm : ∀ t, t < s.things.length → lostB (empties s 0 l).1 t = false) (hg : 0 ≤ s.geo.threads ∧ s.geo.threads ≤ 1000)
    (h : K (.tup [stV (empties s 0 l).1 H.length (H.length + 1) false false, .int .i64 (empties s 0 l).2]) (H ++ [slotsO (empties s 0 l).1, thingsO (empties s 0 l).1])) :
    ACalls Tryz.prog 69 [.agg [.int .i64 s.geo.threads, .int .i64 s.geo.slots, .int .i64 s.geo.things, .slice oS s.slots.length 0 s.slots.length fS, .slice oT s.things.length 0 s.things.length fT], .slice oL l.length 0 l.length fL] H K := by
  have kS := Keeps.of hS
  have kT := Keeps.of hT
  have kL := Keeps.of hL
  have hlS := lS_of good
  have hlT := lT_of good
  refine ACalls.gc ?_
  refine ACalls.into ok69 (Nat.le_of_ble_eq_true rfl) ?_; (try simp only [c69, wpx_of k69_0.eq_1, wpx_of k69_1.eq_1, wpx_of k69_2.eq_1, wpx_of k69_3.eq_1, wpx_of k69_5.eq_1, wpx_of k69_6.eq_1, wpx_of k69_7.eq_1, wpx_of k69_8.eq_1, wpx_of k69_10.eq_1, wpx_of k69_12.eq_1, wpx_of k69_13.eq_1, wpx_of k69_14.eq_1, wpx_of k69_15.eq_1, wpx_of k69_16.eq_1, kS, kT, kL, good, stV, slotsO, thingsO, Nat.add_assoc, go_sem]); repeat' ((first
    | refine And.intro (Or.inr rfl) ?_
    | ((first | refine cB ?_ ?_ | refine gT ?_ ?_ | refine gF ?_ ?_ | refine dT ?_ ?_ | refine dF ?_ ?_) <;> intro hc)
    | refine state_Clone_spec (kS _) (kT _) hlS hlT (lS0_of good) (lT0_of good) ?_
    | refine state_Good_spec (by first | exact at0 | exact at1 | exact at2 | exact at3 | exact at4 | exact at5 | exact at6 | exact at7 | exact at8 | exact at9 | exact at10 | exact at11 | exact at12 | exact at13 | exact at14 | exact at15 | exact at16 | exact atX rfl) (by first | exact at0 | exact at1 | exact at2 | exact at3 | exact at4 | exact at5 | exact at6 | exact at7 | exact at8 | exact at9 | exact at10 | exact at11 | exact at12 | exact at13 | exact at14 | exact at15 | exact at16 | exact atX rfl) ?_) <;> try simp only [*, wpx_of k69_0.eq_1, wpx_of k69_1.eq_1, wpx_of k69_2.eq_1, wpx_of k69_3.eq_1, wpx_of k69_5.eq_1, wpx_of k69_6.eq_1, wpx_of k69_7.eq_1, wpx_of k69_8.eq_1, wpx_of k69_10.eq_1, wpx_of k69_12.eq_1, wpx_of k69_13.eq_1, wpx_of k69_14.eq_1, wpx_of k69_15.eq_1, wpx_of k69_16.eq_1, kS, kT, kL, good, stV, slotsO, thingsO, Nat.add_assoc, go_sem])
  refine ALoop.keep [21, 6, 2, 4, 19, 20] ?_; simp only [List.map_cons, List.map_nil, go_sem]
  refine ALoop.acc (fun k G => [(21, .int .i64 (k : Int)), (6, .int .i64 (empties s 0 (l.take k)).2)]) (fun k G => H ++ _ :: _ :: slotsO (empties s 0 (l.take k)).1 :: thingsO (empties s 0 (l.take k)).1 :: G) (fun k G => True) l.length ?_ (a0 := []) trivial
  intro k G hk _ next
  have hlen := empties_len (l := l.take k) s 0
  have hnum := empties_num (l := l.take k) s 0
  rw [List.length_take] at hnum
  have hsucc := fun h => empties_succ (l := l) (k := k) (s := s) (n := 0) h
  have hall : k = l.length → l.take k = l := fun h => by rw [h, List.take_length]
  generalize hE : empties s 0 (l.take k) = E at *
  obtain ⟨u, n⟩ := E
  simp only at hlen hnum hsucc ⊢
  obtain ⟨en, em, eg⟩ := hlen
  have hgg : u.geo.threads = s.geo.threads ∧ u.geo.slots = s.geo.slots ∧ u.geo.things = s.geo.things := by rw [eg]; exact ⟨rfl, rfl, rfl⟩
  refine ALoop.unfold ?_
  have hw := wrap_succ (k := k) (by omega)
  have hwn : IntKind.wrap .i64 (n + 1) = n + 1 := w64 (by omega) (by omega)
  have hgl : k < l.length → _ := fun h => ints_get (l := l) (k := k) h
  have en' := hide en
  have em' := hide em
  (try simp only [wpx_of k69_0.eq_1, wpx_of k69_1.eq_1, wpx_of k69_2.eq_1, wpx_of k69_3.eq_1, wpx_of k69_5.eq_1, wpx_of k69_6.eq_1, wpx_of k69_7.eq_1, wpx_of k69_8.eq_1, wpx_of k69_10.eq_1, wpx_of k69_12.eq_1, wpx_of k69_13.eq_1, wpx_of k69_14.eq_1, wpx_of k69_15.eq_1, wpx_of k69_16.eq_1, kS, kT, kL, hw, hwn, hgl, wpx_of b69_4.eq_1, nlt_iff, n0_le, slotsO, thingsO, Nat.add_assoc, List.cons_append, List.nil_append, go_sem]); repeat' ((first
    | refine And.intro (Or.inr rfl) ?_
    | ((first | refine cB ?_ ?_ | refine gT ?_ ?_ | refine gF ?_ ?_ | refine dT ?_ ?_ | refine dF ?_ ?_) <;> intro hc)
    | refine take_empty_x (s := u) at2 at3 en em hgg hlS hlT (fun hc => ?_) (fun hc L => ?_)) <;> try simp only [*, wpx_of k69_0.eq_1, wpx_of k69_1.eq_1, wpx_of k69_2.eq_1, wpx_of k69_3.eq_1, wpx_of k69_5.eq_1, wpx_of k69_6.eq_1, wpx_of k69_7.eq_1, wpx_of k69_8.eq_1, wpx_of k69_10.eq_1, wpx_of k69_12.eq_1, wpx_of k69_13.eq_1, wpx_of k69_14.eq_1, wpx_of k69_15.eq_1, wpx_of k69_16.eq_1, kS, kT, kL, hw, hwn, hgl, wpx_of b69_4.eq_1, nlt_iff, n0_le, slotsO, thingsO, Nat.add_assoc, List.cons_append, List.nil_append, go_sem])
  case refine_1.refine_1 =>
    have e := hsucc (by assumption)
    simp only [emptyE, show emptyB u (l.getD k 0) = false by assumption, cond_false] at e
    simp only [e] at next
    (refine ALoop.keep [21, 6, 2, 4, 19, 20] ?_; simp only [List.map_cons, List.map_nil, go_sem]; refine next _ (by assumption) trivial)
  case refine_1.refine_2 =>
    have e := hsucc (by assumption)
    simp only [emptyE, show emptyB u (l.getD k 0) = true by assumption, cond_true] at e
    simp only [e] at next
    (refine ALoop.keep [21, 6, 2, 4, 19, 20] ?_; simp only [List.map_cons, List.map_nil, go_sem]; refine next _ (by assumption) trivial)
  have hk' : k = l.length := by omega
  rw [hall hk'] at hE
  rw [hE] at calm h
  simp only at calm h
  clear next hsucc hall hE hw hwn hgl hk' hk
  have hwn : IntKind.wrap .i64 n = n := w64 (by omega) (by omega)
  have hgc : 0 ≤ u.geo.threads ∧ u.geo.threads ≤ 1000 := by rw [eg]; exact hg
  refine ALoop.keep [9, 2, 4, 6] ?_; simp only [List.map_cons, List.map_nil, go_sem]
  refine ALoop.unfold ?_
  (try simp only [wpx_of k69_0.eq_1, wpx_of k69_1.eq_1, wpx_of k69_2.eq_1, wpx_of k69_3.eq_1, wpx_of k69_5.eq_1, wpx_of k69_6.eq_1, wpx_of k69_7.eq_1, wpx_of k69_8.eq_1, wpx_of k69_10.eq_1, wpx_of k69_12.eq_1, wpx_of k69_13.eq_1, wpx_of k69_14.eq_1, wpx_of k69_15.eq_1, wpx_of k69_16.eq_1, wpx_of b69_11.eq_1, slotsO, thingsO, Nat.add_assoc, List.cons_append, List.nil_append, go_sem]); repeat' ((first
    | refine And.intro (Or.inr rfl) ?_
    | ((first | refine cB ?_ ?_ | refine gT ?_ ?_ | refine gF ?_ ?_ | refine dT ?_ ?_ | refine dF ?_ ?_) <;> intro hc)) <;> try simp only [*, wpx_of k69_0.eq_1, wpx_of k69_1.eq_1, wpx_of k69_2.eq_1, wpx_of k69_3.eq_1, wpx_of k69_5.eq_1, wpx_of k69_6.eq_1, wpx_of k69_7.eq_1, wpx_of k69_8.eq_1, wpx_of k69_10.eq_1, wpx_of k69_12.eq_1, wpx_of k69_13.eq_1, wpx_of k69_14.eq_1, wpx_of k69_15.eq_1, wpx_of k69_16.eq_1, wpx_of b69_11.eq_1, slotsO, thingsO, Nat.add_assoc, List.cons_append, List.nil_append, go_sem])
  refine ALoop.keep [35, 2, 4, 6, 9, 34] ?_; simp only [List.map_cons, List.map_nil, go_sem]
  refine ALoop.cnt (fun k => True) s.things.length trivial fun k hk _ next => ?_
  refine ALoop.unfold ?_
  have hw := wrap_succ (k := k) (by omega)
  (try simp only [wpx_of k69_0.eq_1, wpx_of k69_1.eq_1, wpx_of k69_2.eq_1, wpx_of k69_3.eq_1, wpx_of k69_5.eq_1, wpx_of k69_6.eq_1, wpx_of k69_7.eq_1, wpx_of k69_8.eq_1, wpx_of k69_10.eq_1, wpx_of k69_12.eq_1, wpx_of k69_13.eq_1, wpx_of k69_14.eq_1, wpx_of k69_15.eq_1, wpx_of k69_16.eq_1, hw, hwn, wpx_of b69_9.eq_1, nlt_iff, n0_le, slotsO, thingsO, Nat.add_assoc, Int.add_zero, List.cons_append, List.nil_append, go_sem]); repeat' ((first
    | refine And.intro (Or.inr rfl) ?_
    | ((first | refine cB ?_ ?_ | refine gT ?_ ?_ | refine gF ?_ ?_ | refine dT ?_ ?_ | refine dF ?_ ?_) <;> intro hc)
    | refine take_lost_no (s := u) at2 at3 en em hgg hlS hlT hgc (by assumption) (calm _ (by assumption)) ?_) <;> try simp only [*, wpx_of k69_0.eq_1, wpx_of k69_1.eq_1, wpx_of k69_2.eq_1, wpx_of k69_3.eq_1, wpx_of k69_5.eq_1, wpx_of k69_6.eq_1, wpx_of k69_7.eq_1, wpx_of k69_8.eq_1, wpx_of k69_10.eq_1, wpx_of k69_12.eq_1, wpx_of k69_13.eq_1, wpx_of k69_14.eq_1, wpx_of k69_15.eq_1, wpx_of k69_16.eq_1, hw, hwn, wpx_of b69_9.eq_1, nlt_iff, n0_le, slotsO, thingsO, Nat.add_assoc, Int.add_zero, List.cons_append, List.nil_append, go_sem])
  case refine_2.refine_1 => (refine ALoop.keep [35, 2, 4, 6, 9, 34] ?_; simp only [List.map_cons, List.map_nil, go_sem]; refine next (by assumption) trivial)
  refine ALoop.keep [9, 2, 4, 6] ?_; simp only [List.map_cons, List.map_nil, go_sem]
  refine ALoop.unfold ?_
  (try simp only [wpx_of k69_0.eq_1, wpx_of k69_1.eq_1, wpx_of k69_2.eq_1, wpx_of k69_3.eq_1, wpx_of k69_5.eq_1, wpx_of k69_6.eq_1, wpx_of k69_7.eq_1, wpx_of k69_8.eq_1, wpx_of k69_10.eq_1, wpx_of k69_12.eq_1, wpx_of k69_13.eq_1, wpx_of k69_14.eq_1, wpx_of k69_15.eq_1, wpx_of k69_16.eq_1, wpx_of b69_11.eq_1, slotsO, thingsO, Nat.add_assoc, List.cons_append, List.nil_append, go_sem]); repeat' ((first
    | refine And.intro (Or.inr rfl) ?_
    | ((first | refine cB ?_ ?_ | refine gT ?_ ?_ | refine gF ?_ ?_ | refine dT ?_ ?_ | refine dF ?_ ?_) <;> intro hc)) <;> try simp only [*, wpx_of k69_0.eq_1, wpx_of k69_1.eq_1, wpx_of k69_2.eq_1, wpx_of k69_3.eq_1, wpx_of k69_5.eq_1, wpx_of k69_6.eq_1, wpx_of k69_7.eq_1, wpx_of k69_8.eq_1, wpx_of k69_10.eq_1, wpx_of k69_12.eq_1, wpx_of k69_13.eq_1, wpx_of k69_14.eq_1, wpx_of k69_15.eq_1, wpx_of k69_16.eq_1, wpx_of b69_11.eq_1, slotsO, thingsO, Nat.add_assoc, List.cons_append, List.nil_append, go_sem])
  refine Gc.stN (s' := u) (r := some u) (i := 2) (j := 3) rfl rfl (fun s' e => ?_) (by decide) (by simp [AVal.plain, plains]) en.symm em.symm ⟨hgg.1.symm, hgg.2.1.symm, hgg.2.2.symm⟩ rfl
  injection e with e
  subst e
  exact h
end
end Go.Proofs.YtipigjckoejfpaaGreat.Ax

/- What is deleted, where nothing more goes with it: what the program's functions answer. Conditions: none. -/
namespace Go.Ax.M
open Go Go.Ax
theorem copies_parts {s : State} {th b rights : Int} {a : List Int} {x : State} (h : (giveM s th ⟨2, a, [b], rights, 0, 0⟩).st = some x) :
    (giveM s th ⟨2, a, [b], rights, 0, 0⟩).err = 0 ∧ callGood ⟨5, [b], [], 0, 0, 0⟩ = true ∧ (fCap x th [b]).2.2 = 0 ∧ sGood x = true ∧ empties x 0 [(fCap x th [b]).1] = (s, 1) ∧ ∀ t, t < x.things.length → lostB s t = false := by
  obtain ⟨g1, g2, g3, g4, g5⟩ := giveM_some h
  refine ⟨by rw [g4], ?_⟩
  rcases g5 with ⟨h, _⟩ | ⟨_, y, k1, k2, -⟩
  · simp at h
  simp only at g2 g3 k1 k2
  obtain ⟨inv, f0, f1, t0, t1, hc, hn, ho, hfn, hte, hty, hl, hr⟩ := putE_zero k1
  obtain ⟨_, b1, b2, b3, b4, b5⟩ := fEmpty_ok g3
  have invx := putS_inv k1
  obtain ⟨e1, e2⟩ := empty_put k1
  have hxs : x.slot (fEmpty s th [b]).1.toNat = ⟨y, (fCap s th a).1⟩ := by
    rw [k2]
    have := slot_set (s := s) (i := (fEmpty s th [b]).1.toNat) (k := (fEmpty s th [b]).1.toNat) (x := ⟨y, (fCap s th a).1⟩) (by omega)
    rw [if_pos rfl] at this; exact this
  have fx : fSlot x th [b] = ((fEmpty s th [b]).1, 0) := by rw [k2, single_same inv invx rfl rfl]; exact b5
  have cx : fCap x th [b] = ((fEmpty s th [b]).1, y, 0) := by
    have := fCap_eq fx (by simp only [State.non, hxs]; exact hn)
    rw [this, hxs]
  have g : callGood ⟨5, [b], [], 0, 0, 0⟩ = true := by
    simp only [callGood, Bool.and_eq_true] at g1 ⊢
    obtain ⟨q1, q2, q3, q4, q5⟩ := g1
    have q6 : pGood [b] = true := by simpa [callL] using q3
    exact ⟨by simp [callL], q6, by simp [callL], by simp [cNumbers], by simp⟩
  refine ⟨g, by rw [cx], by rw [k2]; exact invx.ok.good, ?_, fun t ht => lost_none inv (by rw [k2] at ht; exact ht)⟩
  rw [cx, k2]
  simp only [empties, List.foldl_cons, List.foldl_nil, emptyE, e1, cond_true, e2]
  rfl
end Go.Ax.M
namespace Go.Proofs.YtipigjckoejfpaaGreat.Ax
open Go Go.Ax Go.Ax.M
section
variable {H : Heap} {K : AVal → Heap → Prop} {s u : State} {th n : Int} {a b : List Int} {oS oT oA oB : Nat} {fS fT fA fB rS rT rA rB : Bool}

theorem take_Do_five (hcg : callGood ⟨5, a, b, 0, 0, 0⟩ = true) (hf : (fCap s th a).2.2 = 0) (hgood : sGood s = true) (he : empties s 0 [(fCap s th a).1] = (u, n)) (calm : ∀ t, t < s.things.length → lostB u t = false) (hg : 0 ≤ s.geo.threads ∧ s.geo.threads ≤ 1000)
    (hS : H[oS]? = some (.arr 5 (s.slots.map Slot.cells) rS)) (hT : H[oT]? = some (.arr 13 (s.things.map Thing.cells) rT)) (hA : H[oA]? = some (.arr 1 (ints a) rA)) (hB : H[oB]? = some (.arr 1 (ints b) rB))
    (h : K (.tup [stV u H.length (H.length + 1) false false, .agg [.int .i64 0, .int .u64 0, .int .i64 n]]) (H ++ [slotsO u, thingsO u])) :
    ACalls Tryz.prog 72 [.agg [.int .i64 s.geo.threads, .int .i64 s.geo.slots, .int .i64 s.geo.things, .slice oS s.slots.length 0 s.slots.length fS, .slice oT s.things.length 0 s.things.length fT], .int .i64 th, .agg [.int .i64 5, .slice oA a.length 0 a.length fA, .slice oB b.length 0 b.length fB, .int .i64 0, .int .i64 0, .int .u64 0]] H K := by
  have kT := Keeps.of hT
  have kS := Keeps.of hS
  have kA := Keeps.of hA
  have kB := Keeps.of hB
  refine ACalls.gc ?_
  refine ACalls.into ok72 (Nat.le_of_ble_eq_true rfl) ?_; (try simp only [c72, wpx_of k72_0.eq_1, wpx_of k72_1.eq_1, wpx_of k72_2.eq_1, wpx_of k72_3.eq_1, wpx_of k72_4.eq_1, wpx_of k72_5.eq_1, wpx_of k72_6.eq_1, wpx_of k72_7.eq_1, wpx_of k72_8.eq_1, wpx_of k72_9.eq_1, stV, slotsO, thingsO, Nat.add_assoc, Cap.cells, hcg, hf, go_sem]); repeat' ((first
    | refine And.intro (Or.inr rfl) ?_
    | ((first | refine cB ?_ ?_ | refine gT ?_ ?_ | refine gF ?_ ?_ | refine dT ?_ ?_ | refine dF ?_ ?_) <;> intro hc)
    | refine call_Good_spec (c := ⟨5, a, b, 0, 0, 0⟩) (kA _) (kB _) ?_
    | refine find_Cap_spec (kS _) (kT _) (kA _) ?_
    | refine take_Empty_calm (l := [(fCap s th a).1]) (s := s) (by first | exact kS _ | exact kT _ | exact kA _ | exact kB _ | exact kC _ | exact kD _ | exact kX _ | exact at0 | exact at1 | exact at2 | exact at3 | exact at4 | exact at5 | exact at6 | exact at7 | exact at8 | exact at9 | exact at10 | exact at11 | exact at12 | exact at13 | exact at14 | exact at15 | exact at16 | exact atX rfl) (kS _) (kT _) hgood (by simp) (by rw [he]; exact calm) hg ?_) <;> try simp only [*, wpx_of k72_0.eq_1, wpx_of k72_1.eq_1, wpx_of k72_2.eq_1, wpx_of k72_3.eq_1, wpx_of k72_4.eq_1, wpx_of k72_5.eq_1, wpx_of k72_6.eq_1, wpx_of k72_7.eq_1, wpx_of k72_8.eq_1, wpx_of k72_9.eq_1, stV, slotsO, thingsO, Nat.add_assoc, Cap.cells, hcg, hf, go_sem])
  exact Gc.stateT (i := 6) (j := 7) rfl rfl (by decide) (by simp [AVal.plain, plains]) h

theorem take_five_nil (hcg : callGood ⟨5, a, [], 0, 0, 0⟩ = true) (hf : (fCap s th a).2.2 = 0) (hgood : sGood s = true) (he : empties s 0 [(fCap s th a).1] = (u, n)) (calm : ∀ t, t < s.things.length → lostB u t = false) (hg : 0 ≤ s.geo.threads ∧ s.geo.threads ≤ 1000)
    (hS : H[oS]? = some (.arr 5 (s.slots.map Slot.cells) rS)) (hT : H[oT]? = some (.arr 13 (s.things.map Thing.cells) rT)) (hA : H[oA]? = some (.arr 1 (ints a) rA))
    (h : K (.tup [stV u H.length (H.length + 1) false false, .agg [.int .i64 0, .int .u64 0, .int .i64 n]]) (H ++ [slotsO u, thingsO u])) :
    ACalls Tryz.prog 72 [.agg [.int .i64 s.geo.threads, .int .i64 s.geo.slots, .int .i64 s.geo.things, .slice oS s.slots.length 0 s.slots.length fS, .slice oT s.things.length 0 s.things.length fT], .int .i64 th, .agg [.int .i64 5, .slice oA a.length 0 a.length fA, .lit (.slice none 0 0), .int .i64 0, .int .i64 0, .int .u64 0]] H K := by
  refine ACalls.gc (ACalls.lay 1 ?_)
  simp only [Go.Ax.fillN, Go.Ax.fill1, go_sem]
  have kS := Keeps.of hS
  have kT := Keeps.of hT
  have kA := Keeps.of hA
  refine take_Do_five (b := []) (oB := H.length) (rB := false) hcg hf hgood he calm hg (kS _) (kT _) (kA _) at0 ?_
  have := Gc.stateT (H := H) (L := .arr 1 [] false :: [slotsO u, thingsO u]) (K := K) (i := 1) (j := 2) (s := u) (f := false) (f' := false) (l := [.agg [.int .i64 0, .int .u64 0, .int .i64 n]]) rfl rfl (by decide) (by simp [AVal.plain, plains]) h
  simpa [List.append_assoc, Nat.add_assoc] using this
end
end Go.Proofs.YtipigjckoejfpaaGreat.Ax

/- The document's word on two copies (chapter 17): what is below one place, where there is one. Conditions: none. -/
namespace Go.Proofs.YtipigjckoejfpaaGreat.Ax
open Go Go.Ax Go.Ax.M
set_option maxRecDepth 100000
section
variable {H : Heap} {K : AVal → Heap → Prop} {o : Nat} {f ro fl : Bool} {x : Int}

theorem w1_one : IntKind.wrap .i64 1 = 1 := by decide
theorem w1_sub : IntKind.wrap .i64 (1 - 0) = 1 := by decide

theorem insertion_one (ho : H[o]? = some (.arr 1 [[.int .i64 x]] ro)) (h : K (.tup []) H) : ACalls Tryz.prog 261 [.slice o 1 0 1 f, .int .i64 0, .int .i64 1] H K := by
  refine ACalls.into ok261 (Nat.le_of_ble_eq_true rfl) ?_; (try simp only [c261, wpx_of k261_0.eq_1, wpx_of k261_2.eq_1, w1_one, go_sem]); repeat' ((first
    | refine And.intro (Or.inr rfl) ?_
    | ((first | refine cB ?_ ?_ | refine gT ?_ ?_ | refine gF ?_ ?_ | refine dT ?_ ?_ | refine dF ?_ ?_) <;> intro hc)) <;> try simp only [*, wpx_of k261_0.eq_1, wpx_of k261_2.eq_1, w1_one, go_sem])
  refine ALoop.unfold ?_
  (try simp only [wpx_of k261_0.eq_1, wpx_of k261_2.eq_1, wpx_of b261_3.eq_1, w1_one, go_sem]); repeat' ((first
    | refine And.intro (Or.inr rfl) ?_
    | ((first | refine cB ?_ ?_ | refine gT ?_ ?_ | refine gF ?_ ?_ | refine dT ?_ ?_ | refine dF ?_ ?_) <;> intro hc)) <;> try simp only [*, wpx_of k261_0.eq_1, wpx_of k261_2.eq_1, wpx_of b261_3.eq_1, w1_one, go_sem])
  all_goals first | exact h | trace_state

theorem pdq_one (ho : H[o]? = some (.arr 1 [[.int .i64 x]] ro)) (h : K (.tup []) H) : ACalls Tryz.prog 232 [.slice o 1 0 1 f, .int .i64 0, .int .i64 1, .int .i64 1] H K := by
  refine ACalls.into ok232 (Nat.le_of_ble_eq_true rfl) ?_; (try simp only [c232, wpx_of k232_0.eq_1, wpx_of k232_1.eq_1, wpx_of k232_2.eq_1, wpx_of k232_3.eq_1, wpx_of k232_4.eq_1, wpx_of k232_5.eq_1, wpx_of k232_6.eq_1, wpx_of k232_7.eq_1, wpx_of k232_8.eq_1, wpx_of k232_9.eq_1, wpx_of k232_10.eq_1, wpx_of k232_11.eq_1, wpx_of k232_12.eq_1, wpx_of k232_13.eq_1, wpx_of k232_14.eq_1, wpx_of k232_15.eq_1, wpx_of k232_16.eq_1, wpx_of k232_17.eq_1, wpx_of k232_18.eq_1, wpx_of k232_19.eq_1, wpx_of k232_20.eq_1, wpx_of k232_21.eq_1, w1_sub, go_sem]); repeat' ((first
    | refine And.intro (Or.inr rfl) ?_
    | ((first | refine cB ?_ ?_ | refine gT ?_ ?_ | refine gF ?_ ?_ | refine dT ?_ ?_ | refine dF ?_ ?_) <;> intro hc)) <;> try simp only [*, wpx_of k232_0.eq_1, wpx_of k232_1.eq_1, wpx_of k232_2.eq_1, wpx_of k232_3.eq_1, wpx_of k232_4.eq_1, wpx_of k232_5.eq_1, wpx_of k232_6.eq_1, wpx_of k232_7.eq_1, wpx_of k232_8.eq_1, wpx_of k232_9.eq_1, wpx_of k232_10.eq_1, wpx_of k232_11.eq_1, wpx_of k232_12.eq_1, wpx_of k232_13.eq_1, wpx_of k232_14.eq_1, wpx_of k232_15.eq_1, wpx_of k232_16.eq_1, wpx_of k232_17.eq_1, wpx_of k232_18.eq_1, wpx_of k232_19.eq_1, wpx_of k232_20.eq_1, wpx_of k232_21.eq_1, w1_sub, go_sem])
  refine ALoop.unfold ?_
  (try simp only [wpx_of k232_0.eq_1, wpx_of k232_1.eq_1, wpx_of k232_2.eq_1, wpx_of k232_3.eq_1, wpx_of k232_4.eq_1, wpx_of k232_5.eq_1, wpx_of k232_6.eq_1, wpx_of k232_7.eq_1, wpx_of k232_8.eq_1, wpx_of k232_9.eq_1, wpx_of k232_10.eq_1, wpx_of k232_11.eq_1, wpx_of k232_12.eq_1, wpx_of k232_13.eq_1, wpx_of k232_14.eq_1, wpx_of k232_15.eq_1, wpx_of k232_16.eq_1, wpx_of k232_17.eq_1, wpx_of k232_18.eq_1, wpx_of k232_19.eq_1, wpx_of k232_20.eq_1, wpx_of k232_21.eq_1, wpx_of b232_22.eq_1, w1_sub, go_sem]); repeat' ((first
    | refine And.intro (Or.inr rfl) ?_
    | ((first | refine cB ?_ ?_ | refine gT ?_ ?_ | refine gF ?_ ?_ | refine dT ?_ ?_ | refine dF ?_ ?_) <;> intro hc)
    | refine insertion_one ho ?_) <;> try simp only [*, wpx_of k232_0.eq_1, wpx_of k232_1.eq_1, wpx_of k232_2.eq_1, wpx_of k232_3.eq_1, wpx_of k232_4.eq_1, wpx_of k232_5.eq_1, wpx_of k232_6.eq_1, wpx_of k232_7.eq_1, wpx_of k232_8.eq_1, wpx_of k232_9.eq_1, wpx_of k232_10.eq_1, wpx_of k232_11.eq_1, wpx_of k232_12.eq_1, wpx_of k232_13.eq_1, wpx_of k232_14.eq_1, wpx_of k232_15.eq_1, wpx_of k232_16.eq_1, wpx_of k232_17.eq_1, wpx_of k232_18.eq_1, wpx_of k232_19.eq_1, wpx_of k232_20.eq_1, wpx_of k232_21.eq_1, wpx_of b232_22.eq_1, w1_sub, go_sem])
  all_goals first | exact h | trace_state

theorem sort_one (ho : H[o]? = some (.arr 1 [[.int .i64 x]] ro)) (h : K (.tup []) H) : ACalls Tryz.prog 168 [.slice o 1 0 1 f] H K := by
  refine ACalls.into ok168 (Nat.le_of_ble_eq_true rfl) ?_; (try simp only [c168, wpx_of k168_0.eq_1, go_sem]); repeat' ((first
    | refine And.intro (Or.inr rfl) ?_
    | ((first | refine cB ?_ ?_ | refine gT ?_ ?_ | refine gF ?_ ?_ | refine dT ?_ ?_ | refine dF ?_ ?_) <;> intro hc)
    | refine run_known (v := .int .i64 1) tab17Ok (loops := 50) (k := 20) (by kernel_rfl) rfl rfl ?_
    | refine pdq_one ho ?_) <;> try simp only [*, wpx_of k168_0.eq_1, go_sem])
  all_goals first | exact h | trace_state

variable {up : List Int} {oX : Nat} {fX rX : Bool}
theorem behind_none (ho : H[o]? = some (.arr 1 (ints up) ro)) (h : K (.lit (.slice none 0 0)) H) : ACalls Tryz.prog 221 [.agg [.slice o up.length 0 up.length fl], .slice oX 0 0 0 fX] H K := by
  refine ACalls.gc ?_
  refine ACalls.into ok221 (Nat.le_of_ble_eq_true rfl) ?_; (try simp only [c221, wpx_of k221_0.eq_1, wpx_of k221_1.eq_1, wpx_of k221_2.eq_1, wpx_of k221_4.eq_1, go_sem]); repeat' ((first
    | refine And.intro (Or.inr rfl) ?_
    | ((first | refine cB ?_ ?_ | refine gT ?_ ?_ | refine gF ?_ ?_ | refine dT ?_ ?_ | refine dF ?_ ?_) <;> intro hc)) <;> try simp only [*, wpx_of k221_0.eq_1, wpx_of k221_1.eq_1, wpx_of k221_2.eq_1, wpx_of k221_4.eq_1, go_sem])
  refine ALoop.unfold ?_
  (try simp only [wpx_of k221_0.eq_1, wpx_of k221_1.eq_1, wpx_of k221_2.eq_1, wpx_of k221_4.eq_1, wpx_of b221_3.eq_1, go_sem]); repeat' ((first
    | refine And.intro (Or.inr rfl) ?_
    | ((first | refine cB ?_ ?_ | refine gT ?_ ?_ | refine gF ?_ ?_ | refine dT ?_ ?_ | refine dF ?_ ?_) <;> intro hc)) <;> try simp only [*, wpx_of k221_0.eq_1, wpx_of k221_1.eq_1, wpx_of k221_2.eq_1, wpx_of k221_4.eq_1, wpx_of b221_3.eq_1, go_sem])
  exact Gc.old (by simp [AVal.refs]) h

theorem behind_one (ho : H[o]? = some (.arr 1 (ints up) ro)) (hX : H[oX]? = some (.arr 1 [[.int .i64 x]] rX)) (hlen : up.length ≤ 1000) (hof : fOf up x = []) (h : K (.slice H.length 1 0 1 false) (H ++ [.arr 1 [[.int .i64 x]] false])) :
    ACalls Tryz.prog 221 [.agg [.slice o up.length 0 up.length fl], .slice oX 1 0 1 fX] H K := by
  have kO := Keeps.of ho
  have kX := Keeps.of hX
  refine ACalls.gc ?_
  refine ACalls.into ok221 (Nat.le_of_ble_eq_true rfl) ?_; (try simp only [c221, wpx_of k221_0.eq_1, wpx_of k221_1.eq_1, wpx_of k221_2.eq_1, wpx_of k221_4.eq_1, kO, kX, go_sem]); repeat' ((first
    | refine And.intro (Or.inr rfl) ?_
    | ((first | refine cB ?_ ?_ | refine gT ?_ ?_ | refine gF ?_ ?_ | refine dT ?_ ?_ | refine dF ?_ ?_) <;> intro hc)) <;> try simp only [*, wpx_of k221_0.eq_1, wpx_of k221_1.eq_1, wpx_of k221_2.eq_1, wpx_of k221_4.eq_1, kO, kX, go_sem])
  refine ALoop.unfold ?_
  (try simp only [wpx_of k221_0.eq_1, wpx_of k221_1.eq_1, wpx_of k221_2.eq_1, wpx_of k221_4.eq_1, wpx_of b221_3.eq_1, kO, kX, hof, w1_one, ints, List.map_nil, List.length_nil, go_sem]); repeat' ((first
    | refine And.intro (Or.inr rfl) ?_
    | ((first | refine cB ?_ ?_ | refine gT ?_ ?_ | refine gF ?_ ?_ | refine dT ?_ ?_ | refine dF ?_ ?_) <;> intro hc)
    | refine forest_of_spec (up := up) (kO _) hlen ?_
    | refine behind_none (up := up) (kO _) ?_) <;> try simp only [*, wpx_of k221_0.eq_1, wpx_of k221_1.eq_1, wpx_of k221_2.eq_1, wpx_of k221_4.eq_1, wpx_of b221_3.eq_1, kO, kX, hof, w1_one, ints, List.map_nil, List.length_nil, go_sem])
  refine ALoop.unfold ?_
  (try simp only [wpx_of k221_0.eq_1, wpx_of k221_1.eq_1, wpx_of k221_2.eq_1, wpx_of k221_4.eq_1, wpx_of b221_3.eq_1, go_sem]); repeat' ((first
    | refine And.intro (Or.inr rfl) ?_
    | ((first | refine cB ?_ ?_ | refine gT ?_ ?_ | refine gF ?_ ?_ | refine dT ?_ ?_ | refine dF ?_ ?_) <;> intro hc)) <;> try simp only [*, wpx_of k221_0.eq_1, wpx_of k221_1.eq_1, wpx_of k221_2.eq_1, wpx_of k221_4.eq_1, wpx_of b221_3.eq_1, go_sem])
  exact Gc.slice (i := 2) rfl (by simp [AVal.plain]) h

theorem below_one {i : Int} (ho : H[o]? = some (.arr 1 (ints up) ro)) (hlen : up.length ≤ 1000) (hmay : fMay up i = true) (h1 : fOf up i = [x]) (h2 : fOf up x = []) (h : K (.slice H.length 1 0 1 false) (H ++ [.arr 1 [[.int .i64 x]] false])) :
    ACalls Tryz.prog 147 [.agg [.slice o up.length 0 up.length fl], .int .i64 i] H K := by
  have kO := Keeps.of ho
  refine ACalls.gc ?_
  refine ACalls.into ok147 (Nat.le_of_ble_eq_true rfl) ?_; (try simp only [c147, wpx_of k147_0.eq_1, wpx_of k147_1.eq_1, wpx_of k147_2.eq_1, wpx_of k147_3.eq_1, kO, hmay, h1, ints, List.map_cons, List.map_nil, List.length_cons, List.length_nil, go_sem]); repeat' ((first
    | refine And.intro (Or.inr rfl) ?_
    | ((first | refine cB ?_ ?_ | refine gT ?_ ?_ | refine gF ?_ ?_ | refine dT ?_ ?_ | refine dF ?_ ?_) <;> intro hc)
    | refine forest_may_spec (up := up) (kO _) ?_
    | refine forest_of_spec (up := up) (kO _) hlen ?_
    | refine behind_one (up := up) (kO _) (by first | exact at0 | exact at1 | exact at2 | exact at3 | exact at4 | exact at5 | exact at6 | exact at7 | exact at8 | exact at9 | exact at10 | exact at11 | exact at12 | exact at13 | exact at14 | exact at15 | exact at16 | exact atX rfl) hlen h2 ?_
    | refine sort_one (by first | exact at0 | exact at1 | exact at2 | exact at3 | exact at4 | exact at5 | exact at6 | exact at7 | exact at8 | exact at9 | exact at10 | exact at11 | exact at12 | exact at13 | exact at14 | exact at15 | exact at16 | exact atX rfl) ?_) <;> try simp only [*, wpx_of k147_0.eq_1, wpx_of k147_1.eq_1, wpx_of k147_2.eq_1, wpx_of k147_3.eq_1, kO, hmay, h1, ints, List.map_cons, List.map_nil, List.length_cons, List.length_nil, go_sem])
  exact Gc.slice (i := 2) rfl (by simp [AVal.plain]) h

theorem below_x {i : Int} {n : Nat} (en : up.length = n) (ho : H[o]? = some (.arr 1 (ints up) ro)) (hlen : n ≤ 1000) (hmay : fMay up i = true) (h1 : fOf up i = [x]) (h2 : fOf up x = []) (h : K (.slice H.length 1 0 1 false) (H ++ [.arr 1 [[.int .i64 x]] false])) :
    ACalls Tryz.prog 147 [.agg [.slice o n 0 n fl], .int .i64 i] H K := by
  subst en; exact below_one ho hlen hmay h1 h2 h

variable {s u : State} {th n : Int} {a b : List Int} {oS oT oA oB : Nat} {fS fT fA fB rS rT rA rB : Bool}
theorem take_Do_six (hcg : callGood ⟨6, a, b, 0, 0, 0⟩ = true) (hf : (fCap s th a).2.2 = 0) (hgood : sGood s = true) (hmay : fMay (sForest s) (fCap s th a).1 = true) (h1 : fOf (sForest s) (fCap s th a).1 = [x]) (h2 : fOf (sForest s) x = [])
    (he : empties s 0 [x] = (u, n)) (calm : ∀ t, t < s.things.length → lostB u t = false) (hg : 0 ≤ s.geo.threads ∧ s.geo.threads ≤ 1000)
    (hS : H[oS]? = some (.arr 5 (s.slots.map Slot.cells) rS)) (hT : H[oT]? = some (.arr 13 (s.things.map Thing.cells) rT)) (hA : H[oA]? = some (.arr 1 (ints a) rA)) (hB : H[oB]? = some (.arr 1 (ints b) rB))
    (h : K (.tup [stV u H.length (H.length + 1) false false, .agg [.int .i64 0, .int .u64 0, .int .i64 n]]) (H ++ [slotsO u, thingsO u])) :
    ACalls Tryz.prog 72 [.agg [.int .i64 s.geo.threads, .int .i64 s.geo.slots, .int .i64 s.geo.things, .slice oS s.slots.length 0 s.slots.length fS, .slice oT s.things.length 0 s.things.length fT], .int .i64 th, .agg [.int .i64 6, .slice oA a.length 0 a.length fA, .slice oB b.length 0 b.length fB, .int .i64 0, .int .i64 0, .int .u64 0]] H K := by
  have kT := Keeps.of hT
  have kS := Keeps.of hS
  have kA := Keeps.of hA
  have kB := Keeps.of hB
  have hlF : (sForest s).length = s.slots.length := by simp [sForest]
  refine ACalls.gc ?_
  refine ACalls.into ok72 (Nat.le_of_ble_eq_true rfl) ?_; (try simp only [c72, wpx_of k72_0.eq_1, wpx_of k72_1.eq_1, wpx_of k72_2.eq_1, wpx_of k72_3.eq_1, wpx_of k72_4.eq_1, wpx_of k72_5.eq_1, wpx_of k72_6.eq_1, wpx_of k72_7.eq_1, wpx_of k72_8.eq_1, wpx_of k72_9.eq_1, stV, slotsO, thingsO, Nat.add_assoc, Cap.cells, hcg, hf, go_sem]); repeat' ((first
    | refine And.intro (Or.inr rfl) ?_
    | ((first | refine cB ?_ ?_ | refine gT ?_ ?_ | refine gF ?_ ?_ | refine dT ?_ ?_ | refine dF ?_ ?_) <;> intro hc)
    | refine call_Good_spec (c := ⟨6, a, b, 0, 0, 0⟩) (kA _) (kB _) ?_
    | refine find_Cap_spec (kS _) (kT _) (kA _) ?_
    | refine state_Forest_spec (s := s) (kS _) (lS_of hgood) ?_
    | refine below_x (up := sForest s) hlF (by first | exact at0 | exact at1 | exact at2 | exact at3 | exact at4 | exact at5 | exact at6 | exact at7 | exact at8 | exact at9 | exact at10 | exact at11 | exact at12 | exact at13 | exact at14 | exact at15 | exact at16 | exact atX rfl) (lS_of hgood) hmay h1 h2 ?_
    | refine take_Empty_calm (l := [x]) (s := s) (by first | exact at0 | exact at1 | exact at2 | exact at3 | exact at4 | exact at5 | exact at6 | exact at7 | exact at8 | exact at9 | exact at10 | exact at11 | exact at12 | exact at13 | exact at14 | exact at15 | exact at16 | exact atX rfl) (kS _) (kT _) hgood (by simp) (by rw [he]; exact calm) hg ?_) <;> try simp only [*, wpx_of k72_0.eq_1, wpx_of k72_1.eq_1, wpx_of k72_2.eq_1, wpx_of k72_3.eq_1, wpx_of k72_4.eq_1, wpx_of k72_5.eq_1, wpx_of k72_6.eq_1, wpx_of k72_7.eq_1, wpx_of k72_8.eq_1, wpx_of k72_9.eq_1, stV, slotsO, thingsO, Nat.add_assoc, Cap.cells, hcg, hf, go_sem])
  exact Gc.stateT (i := 8) (j := 9) rfl rfl (by decide) (by simp [AVal.plain, plains]) h

theorem take_six_nil (hcg : callGood ⟨6, a, [], 0, 0, 0⟩ = true) (hf : (fCap s th a).2.2 = 0) (hgood : sGood s = true) (hmay : fMay (sForest s) (fCap s th a).1 = true) (h1 : fOf (sForest s) (fCap s th a).1 = [x]) (h2 : fOf (sForest s) x = [])
    (he : empties s 0 [x] = (u, n)) (calm : ∀ t, t < s.things.length → lostB u t = false) (hg : 0 ≤ s.geo.threads ∧ s.geo.threads ≤ 1000)
    (hS : H[oS]? = some (.arr 5 (s.slots.map Slot.cells) rS)) (hT : H[oT]? = some (.arr 13 (s.things.map Thing.cells) rT)) (hA : H[oA]? = some (.arr 1 (ints a) rA))
    (h : K (.tup [stV u H.length (H.length + 1) false false, .agg [.int .i64 0, .int .u64 0, .int .i64 n]]) (H ++ [slotsO u, thingsO u])) :
    ACalls Tryz.prog 72 [.agg [.int .i64 s.geo.threads, .int .i64 s.geo.slots, .int .i64 s.geo.things, .slice oS s.slots.length 0 s.slots.length fS, .slice oT s.things.length 0 s.things.length fT], .int .i64 th, .agg [.int .i64 6, .slice oA a.length 0 a.length fA, .lit (.slice none 0 0), .int .i64 0, .int .i64 0, .int .u64 0]] H K := by
  refine ACalls.gc (ACalls.lay 1 ?_)
  simp only [Go.Ax.fillN, Go.Ax.fill1, go_sem]
  have kS := Keeps.of hS
  have kT := Keeps.of hT
  have kA := Keeps.of hA
  refine take_Do_six (b := []) (oB := H.length) (rB := false) hcg hf hgood hmay h1 h2 he calm hg (kS _) (kT _) (kA _) at0 ?_
  have := Gc.stateT (H := H) (L := .arr 1 [] false :: [slotsO u, thingsO u]) (K := K) (i := 1) (j := 2) (s := u) (f := false) (f' := false) (l := [.agg [.int .i64 0, .int .u64 0, .int .i64 n]]) rfl rfl (by decide) (by simp [AVal.plain, plains]) h
  simpa [List.append_assoc, Nat.add_assoc] using this
end
end Go.Proofs.YtipigjckoejfpaaGreat.Ax
